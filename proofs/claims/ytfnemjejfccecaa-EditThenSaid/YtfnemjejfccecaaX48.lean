/- What the program's functions answer, as Lean functions, and that each call does just that; no condition. Written by a program (px.py) out of the translation. -/
import Derived.Test.YtfnemjejfccecaaX0
namespace Go.Proofs.Ytfnemjejfccecaa.X
open Go.RowKit Go.Proofs.YtfnemjejfccecaaW.PrintWords Go.Proofs.YtfnemjejfccecaaW.PrintLast Go.Proofs.YtfnemjejfccecaaW.PrintMore
attribute [local go_sem] max2_int min2_int max_two min_two max_three min_three max_four min_four   -- for this text's walks alone
set_option linter.unusedVariables false
set_option linter.unusedSimpArgs false

/-! ### edit_cut: function 48 -/
def edit_cut.l0 : Nat → List (S82) → Int → List (S82) → Int → Int → Int → Int → Option ((List (S82)))
 | 0, _, _, _, _, _, _, _ => none
 | k + 1, x5, x6, x12, x13, x14, x448000, x448001 => if x14 < x13 then (if 0 ≤ x14 then (if x14 < (x12.length : Int) then (if (mx (wrap64 (x448000 - x6)) 0) < (mn (wrap64 (x448001 - x6)) (((rd_T82 x12 x14).f0).size : Int)) then (if 0 ≤ (mx (wrap64 (x448000 - x6)) 0) then (if (mx (wrap64 (x448000 - x6)) 0) ≤ (mn (wrap64 (x448001 - x6)) (((rd_T82 x12 x14).f0).size : Int)) then (if (mn (wrap64 (x448001 - x6)) (((rd_T82 x12 x14).f0).size : Int)) ≤ (((rd_T82 x12 x14).f0).size : Int) then (if ((rd_T82 x12 x14).f1) ≥ 0 then (if x5.length < 5864062014805 then (edit_cut.l0 k (x5 ++ [(⟨((rd_T82 x12 x14).f0).extract ((mx (wrap64 (x448000 - x6)) 0) : Int).toNat ((mn (wrap64 (x448001 - x6)) (((rd_T82 x12 x14).f0).size : Int)) : Int).toNat, wrap64 (((rd_T82 x12 x14).f1) + (mx (wrap64 (x448000 - x6)) 0))⟩ : S82)]) (wrap64 (x6 + (((rd_T82 x12 x14).f0).size : Int))) x12 x13 (wrap64 (x14 + 1)) x448000 x448001) else (none)) else (if x5.length < 5864062014805 then (edit_cut.l0 k (x5 ++ [(⟨((rd_T82 x12 x14).f0).extract ((mx (wrap64 (x448000 - x6)) 0) : Int).toNat ((mn (wrap64 (x448001 - x6)) (((rd_T82 x12 x14).f0).size : Int)) : Int).toNat, (rd_T82 x12 x14).f1⟩ : S82)]) (wrap64 (x6 + (((rd_T82 x12 x14).f0).size : Int))) x12 x13 (wrap64 (x14 + 1)) x448000 x448001) else (none))) else (none)) else (none)) else (none)) else (edit_cut.l0 k x5 (wrap64 (x6 + (((rd_T82 x12 x14).f0).size : Int))) x12 x13 (wrap64 (x14 + 1)) x448000 x448001)) else (none)) else (none)) else (some x5)
def edit_cut.f (k : Nat) (l0 : List (S82)) (a1_0 : Int) (a1_1 : Int) : Option ((List (S82))) := edit_cut.l0 k ([] : List (S82)) 0 l0 (l0.length : Int) 0 a1_0 a1_1
theorem edit_cut.mono_l : ∀ k, (∀ y0 y1 y2 y3 y4 y5 y6, LeO (edit_cut.l0 k y0 y1 y2 y3 y4 y5 y6) (edit_cut.l0 (k + 1) y0 y1 y2 y3 y4 y5 y6))
 | 0 => fun _ _ _ _ _ _ _ r h => by simp [edit_cut.l0] at h
 | k + 1 => by
  have ih0 := edit_cut.mono_l k
  ·intro y0 y1 y2 y3 y4 y5 y6
   unfold edit_cut.l0
   repeat' first
   | (with_reducible exact ih0 _ _ _ _ _ _ _)
   | (with_reducible exact LeO.refl _)
   | (with_reducible exact LeO.none _)
   | (with_reducible refine LeO.ite ?_ ?_)
   | (with_reducible refine LeO.bind ?_ (fun _ => ?_))
   | exact ih0 _ _ _ _ _ _ _
   | exact LeO.none _
   | refine LeO.ite ?_ ?_
   | refine LeO.bind ?_ (fun _ => ?_)
theorem edit_cut.mono : ∀ a0 a1 a2 k, LeO (edit_cut.f k a0 a1 a2) (edit_cut.f (k + 1) a0 a1 a2) := by
 intro a0 a1 a2 k
 have ih0 := edit_cut.mono_l k
 unfold edit_cut.f
 repeat' first
   | (with_reducible exact ih0 _ _ _ _ _ _ _)
   | (with_reducible exact LeO.refl _)
   | (with_reducible exact LeO.none _)
   | (with_reducible refine LeO.ite ?_ ?_)
   | (with_reducible refine LeO.bind ?_ (fun _ => ?_))
   | exact ih0 _ _ _ _ _ _ _
   | exact LeO.none _
   | refine LeO.ite ?_ ?_
   | refine LeO.bind ?_ (fun _ => ?_)
def edit_cut.T6 : Bool × List (List Nat × List Nat) := (true, [([], []), ([0], [0]), ([], []), ([1, 2], [1, 2]), ([3], [3]), ([], []), ([5], [5]), ([], []), ([6, 7], [6, 7]), ([], []), ([9], [9]), ([10], [10]), ([8, 11], [8, 11]), ([4, 0, 1, 2, 3, 4], [4]), ([12, 13, 0, 1, 2, 3, 4, 5, 6, 7, 8, 9, 10, 11, 12, 13], [12])])
def edit_cut.B6 : List Nat := [0, 1, 0, 7, 15, 0, 32, 0, 224, 0, 512, 1536, 4064, 31, 16383]
theorem edit_cut.tab6 : rtab .any (opsOf Try.f48 6) = edit_cut.T6 := by kernel_rfl
theorem edit_cut.bits6 : waitsOk edit_cut.T6.2 edit_cut.B6 = true := by kernel_rfl
def edit_cut.T8 : Bool × List (List Nat × List Nat) := (true, [([], []), ([0], [0]), ([], []), ([], []), ([1, 2, 3], [1, 2, 3]), ([], []), ([5], [5]), ([4, 6], [4, 6]), ([], []), ([8, 7, 0, 1, 2, 3, 4, 5, 6, 7, 8], [7, 8])])
def edit_cut.B8 : List Nat := [0, 1, 0, 0, 15, 0, 32, 127, 0, 511]
theorem edit_cut.tab8 : rtab .any (opsOf Try.f48 8) = edit_cut.T8 := by kernel_rfl
theorem edit_cut.bits8 : waitsOk edit_cut.T8.2 edit_cut.B8 = true := by kernel_rfl
set_option maxHeartbeats 8000000 in
set_option maxRecDepth 100000 in
theorem edit_cut.calls (k : Nat) (A0 : Option Addr) (c0 : Nat) (l0 : List (S82)) (a1_0 : Int) (a1_1 : Int) (r : List (S82)) (w : World) (hr0 : Kd.C k82 w A0 l0.length l0) (hc0 : l0.length ≤ c0) (h : edit_cut.f k l0 a1_0 a1_1 = some r) :
  Calls Try.prog 48 #[.slice A0 l0.length c0, .agg #[.int .i64 a1_0, .int .i64 a1_1]] w fun e w' => ∃ v0_ : Value, e = .returned (v0_) ∧ Kd.R k82 82 w' w.heap.size (fun _ => True) v0_ r ∧ Below w.heap.size w w' := by
 have hu24 := Try.underlying24
 have hu82 := Try.underlying82
 have HR0 := Aside0.mk hr0
 have HC0 := Aside0.mk hc0
 clear hr0 hc0
 have HB := Aside0.mk (Below.refl w.heap.size w)
 have H : (edit_cut.l0 k ([] : List (S82)) 0 l0 (l0.length : Int) 0 a1_0 a1_1) = some r := h
 clear h
 have H' := Aside0.mk H
 clear H
 go_enter Try.func48, Try.ntmps48
 go_wp2_with (first | ((with_reducible refine gate_dst (N := 3) rfl ?_); refine box_event ?hg (N := 3) ?hd (cs := #[.int .i64 a1_0, .int .i64 a1_1]) (t := 24) ?hr ?_; (case hd => rfl); (case hg => rfl); (case hr => first | (go_simp; done) | (go_simp; rfl)); intro gb447 hg w3 hbox hb; have n0_ := pxs HB hb; have n1_ := Aside0.mk (hbox); have n2_ := Aside0.mk ((by rw [hg]; exact (below_size (pxb HB)) : w.heap.size ≤ gb447)); have n3_ := Aside0.mk ((by rw [hg]; exact (below_size (pxb HB)) : w.heap.size ≤ gb447)); clear HB; have HB := n0_; have BK447 := n1_; have GW447 := n2_; have GE447 := n3_; clear n0_ n1_ n2_ n3_; clear hb hbox hg))
 go_loopg [5, 6, 14] k (fun kq v5 v6 v14 w' => ∃ (x5_1 : List (S82)) (x6_1 : Int) (x14_1 : Int), v6 = .int .i64 x6_1 ∧ v14 = .int .i64 x14_1 ∧ Aside0 (edit_cut.l0 kq x5_1 x6_1 l0 (l0.length : Int) x14_1 a1_0 a1_1 = some r) ∧ Aside0 (kq ≤ k) ∧ Aside0 (Kd.R k82 82 w' w.heap.size (fun _ => True) v5 x5_1) ∧ Aside0 (w'.heap[gb447]? = some (.cells #[.int .i64 a1_0, .int .i64 a1_1] 24 (0, 0))) ∧ Aside0 (Below w.heap.size w w'))
 case atStart => exact ⟨(([] : List (S82))), (0), (0), (by first | rfl | (simp; done) | (simp [*]; done)), (by first | rfl | (simp; done) | (simp [*]; done)), H', ⟨Nat.le_refl _⟩, ⟨by first | exact Kd.R_nil _ _ _ _ _ | exact Kd.N_nil _ _ _ _ _ | exact Kd.V_nil _ _ _ _ _ | exact Kd.Q_nil _ _ _ _ _ | exact Kd.S_nil _ _ _ _ _⟩, ⟨pxq BK447⟩, ⟨pxb HB⟩⟩
 case round =>
  clear H'
  try clear p2
  obtain ⟨x5_1, x6_1, x14_1, rfl, rfl, HA, HK1, HO_5, BK447, HB⟩ := hrel
  cases gk with
  | zero => exact absurd HA.out (by simp [edit_cut.l0])
  | succ k1 =>
   have H := HA.out
   clear HA
   simp only [edit_cut.l0] at H
   by_cases c4 : x14_1 < (l0.length : Int)
   ·rw [if_pos c4] at H
    have c4b0 : decide (x14_1 < (l0.length : Int)) = true := decide_eq_true c4
    clear c4
    by_cases c5 : 0 ≤ x14_1
    ·rw [if_pos c5] at H
     have c5b0 : decide (0 ≤ x14_1) = true := decide_eq_true c5
     clear c5
     by_cases c6 : x14_1 < (l0.length : Int)
     ·rw [if_pos c6] at H
      have c6b0 : decide (x14_1 < (l0.length : Int)) = true := decide_eq_true c6
      clear c6
      obtain ⟨ji7, hji7⟩ : ∃ j_ : Int, (mx (wrap64 (a1_0 - x6_1)) 0) = j_ := ⟨_, rfl⟩
      replace H : (if (ji7) < (mn (wrap64 (a1_1 - x6_1)) (((rd_T82 l0 x14_1).f0).size : Int)) then (if 0 ≤ (ji7) then (if (ji7) ≤ (mn (wrap64 (a1_1 - x6_1)) (((rd_T82 l0 x14_1).f0).size : Int)) then (if (mn (wrap64 (a1_1 - x6_1)) (((rd_T82 l0 x14_1).f0).size : Int)) ≤ (((rd_T82 l0 x14_1).f0).size : Int) then (if ((rd_T82 l0 x14_1).f1) ≥ 0 then (if x5_1.length < 5864062014805 then (edit_cut.l0 k1 (x5_1 ++ [(⟨((rd_T82 l0 x14_1).f0).extract ((ji7) : Int).toNat ((mn (wrap64 (a1_1 - x6_1)) (((rd_T82 l0 x14_1).f0).size : Int)) : Int).toNat, wrap64 (((rd_T82 l0 x14_1).f1) + (ji7))⟩ : S82)]) (wrap64 (x6_1 + (((rd_T82 l0 x14_1).f0).size : Int))) l0 (l0.length : Int) (wrap64 (x14_1 + 1)) a1_0 a1_1) else (none)) else (if x5_1.length < 5864062014805 then (edit_cut.l0 k1 (x5_1 ++ [(⟨((rd_T82 l0 x14_1).f0).extract ((ji7) : Int).toNat ((mn (wrap64 (a1_1 - x6_1)) (((rd_T82 l0 x14_1).f0).size : Int)) : Int).toNat, (rd_T82 l0 x14_1).f1⟩ : S82)]) (wrap64 (x6_1 + (((rd_T82 l0 x14_1).f0).size : Int))) l0 (l0.length : Int) (wrap64 (x14_1 + 1)) a1_0 a1_1) else (none))) else (none)) else (none)) else (none)) else (edit_cut.l0 k1 x5_1 (wrap64 (x6_1 + (((rd_T82 l0 x14_1).f0).size : Int))) l0 (l0.length : Int) (wrap64 (x14_1 + 1)) a1_0 a1_1)) = some r := by first | (rw [hji7] at H; exact H) | (simp only [hji7] at H ⊢; exact H)
      have hji7_ : (if (wrap64 (a1_0 - x6_1)) < 0 then 0 else (wrap64 (a1_0 - x6_1))) = ji7 := hji7
      obtain ⟨ji8, hji8⟩ : ∃ j_ : Int, (mn (wrap64 (a1_1 - x6_1)) (((rd_T82 l0 x14_1).f0).size : Int)) = j_ := ⟨_, rfl⟩
      replace H : (if (ji7) < (ji8) then (if 0 ≤ (ji7) then (if (ji7) ≤ (ji8) then (if (ji8) ≤ (((rd_T82 l0 x14_1).f0).size : Int) then (if ((rd_T82 l0 x14_1).f1) ≥ 0 then (if x5_1.length < 5864062014805 then (edit_cut.l0 k1 (x5_1 ++ [(⟨((rd_T82 l0 x14_1).f0).extract ((ji7) : Int).toNat ((ji8) : Int).toNat, wrap64 (((rd_T82 l0 x14_1).f1) + (ji7))⟩ : S82)]) (wrap64 (x6_1 + (((rd_T82 l0 x14_1).f0).size : Int))) l0 (l0.length : Int) (wrap64 (x14_1 + 1)) a1_0 a1_1) else (none)) else (if x5_1.length < 5864062014805 then (edit_cut.l0 k1 (x5_1 ++ [(⟨((rd_T82 l0 x14_1).f0).extract ((ji7) : Int).toNat ((ji8) : Int).toNat, (rd_T82 l0 x14_1).f1⟩ : S82)]) (wrap64 (x6_1 + (((rd_T82 l0 x14_1).f0).size : Int))) l0 (l0.length : Int) (wrap64 (x14_1 + 1)) a1_0 a1_1) else (none))) else (none)) else (none)) else (none)) else (edit_cut.l0 k1 x5_1 (wrap64 (x6_1 + (((rd_T82 l0 x14_1).f0).size : Int))) l0 (l0.length : Int) (wrap64 (x14_1 + 1)) a1_0 a1_1)) = some r := by first | (rw [hji8] at H; exact H) | (simp only [hji8] at H ⊢; exact H)
      have hji8_ : (if (((rd_T82 l0 x14_1).f0).size : Int) < (wrap64 (a1_1 - x6_1)) then (((rd_T82 l0 x14_1).f0).size : Int) else (wrap64 (a1_1 - x6_1))) = ji8 := hji8
      by_cases c9 : (ji7) < (ji8)
      ·rw [if_pos c9] at H
       have c9b0 : decide ((ji7) < (ji8)) = true := decide_eq_true c9
       clear c9
       by_cases c10 : 0 ≤ (ji7)
       ·rw [if_pos c10] at H
        have c10b0 := eq_true c10
        have c10b1 : decide (0 ≤ (ji7)) = true := decide_eq_true c10
        clear c10
        by_cases c11 : (ji7) ≤ (ji8)
        ·rw [if_pos c11] at H
         have c11b0 := eq_true c11
         have c11b1 : decide ((ji7) ≤ (ji8)) = true := decide_eq_true c11
         clear c11
         by_cases c12 : (ji8) ≤ (((rd_T82 l0 x14_1).f0).size : Int)
         ·rw [if_pos c12] at H
          have c12b0 := eq_true c12
          have c12b1 : decide ((ji8) ≤ (((rd_T82 l0 x14_1).f0).size : Int)) = true := decide_eq_true c12
          clear c12
          by_cases c13 : ((rd_T82 l0 x14_1).f1) ≥ 0
          ·rw [if_pos c13] at H
           have c13b0 : decide (0 ≤ ((rd_T82 l0 x14_1).f1)) = true := decide_eq_true c13
           clear c13
           by_cases c14 : x5_1.length < 5864062014805
           ·rw [if_pos c14] at H
            have LMc14 := Aside0.mk c14
            clear c14
            obtain ⟨y451, hy451⟩ : ∃ y_ : List (S82), y_ = (x5_1 ++ [(⟨((rd_T82 l0 x14_1).f0).extract ((ji7) : Int).toNat ((ji8) : Int).toNat, wrap64 (((rd_T82 l0 x14_1).f1) + (ji7))⟩ : S82)]) := ⟨_, rfl⟩
            replace H : (edit_cut.l0 k1 y451 (wrap64 (x6_1 + (((rd_T82 l0 x14_1).f0).size : Int))) l0 (l0.length : Int) (wrap64 (x14_1 + 1)) a1_0 a1_1) = some r := by first | (rw [hy451]; with_reducible exact H) | (have H2_ := (Option.bind_some _ _).symm.trans H; rw [hy451]; with_reducible exact H2_) | (have H2_ := (Option.bind_some _ _).symm.trans H; with_reducible exact H2_) | with_reducible exact H | (rw [hy451]; exact H) | exact H
            have Ny451 := Aside0.mk hy451
            clear hy451
            have H' := Aside0.mk H
            clear H
            have p448 : 0 ≤ (x14_1 : Int) := of_decide_eq_true (by first | (with_reducible assumption) | assumption)
            have q448 : x14_1 < (l0.length : Int) := of_decide_eq_true (by first | (with_reducible assumption) | assumption)
            obtain ⟨ad448, e448, hx448_0, hx448_1⟩ := at_T82 HR0.out x14_1 p448 q448
            cases e448
            replace hx448_0 := (HB.out.cell (World.block_lt_of_cell? w _ hx448_0)).trans hx448_0
            replace hx448_1 := (HB.out.cell (World.block_lt_of_cell? w _ hx448_1)).trans hx448_1
            replace p448 := eq_true p448
            replace q448 := eq_true q448
            try go_wp2_with (first | ((with_reducible refine gate_dst (N := 8) rfl ?_); refine box_event ?hg (N := 8) ?hd (cs := #[.string (⟨#[]⟩ : ByteArray), .int .i64 0]) (t := 82) ?hr ?_; (case hd => rfl); (case hg => rfl); (case hr => first | (go_simp; done) | (go_simp; rfl)); intro gb449 hg w15 hbox hb; have n0_ := Aside0.mk (Kd.R_below (Kd.R_elderB (pxr HO_5) gb449 (Nat.le_of_eq hg.symm)) hb); have n1_ := pxk BK447 hb; have n2_ := pxs HB hb; have n3_ := Aside0.mk (hbox); have n4_ := Aside0.mk ((by rw [hg]; exact (below_size (pxb HB)) : w.heap.size ≤ gb449)); have n5_ := Aside0.mk ((by rw [hg]; exact (below_size (pxb HB)) : w.heap.size ≤ gb449)); have n6_ := Aside0.mk ((by rw [hg]; exact Nat.ne_of_lt (blk_lt (g := gb447) (o := .cells #[.int .i64 a1_0, .int .i64 a1_1] 24 (0, 0)) (pxq BK447)) : gb447 ≠ gb449)); have n7_ := Aside0.mk ((by rw [hg]; exact Nat.ne_of_gt (blk_lt (g := gb447) (o := .cells #[.int .i64 a1_0, .int .i64 a1_1] 24 (0, 0)) (pxq BK447)) : gb449 ≠ gb447)); clear HO_5; clear BK447; clear HB; have HO_5 := n0_; have BK447 := n1_; have HB := n2_; have BK449 := n3_; have GW449 := n4_; have GE449 := n5_; have NB447_449 := n6_; have NB449_447 := n7_; clear n0_ n1_ n2_ n3_ n4_ n5_ n6_ n7_; clear hb hbox hg; have hnb16 := NB449_447.out; have hnc16 := NB447_449.out; have hcz17_0 : w15.cell? ⟨gb449, 0, none⟩ = some (.string (⟨#[]⟩ : ByteArray)) := (blk_cell BK449.out 0).trans rfl; have hcz17_1 : w15.cell? ⟨gb449, 1, none⟩ = some (.int .i64 0) := (blk_cell BK449.out 1).trans rfl; have hfz17_0 := blk_frozen BK449.out 0; have hfz17_1 := blk_frozen BK449.out 1))
            have n0_ : Aside0 (Kd.R k82 82 ((w15.setCell ⟨gb449, 0, none⟩ (.string ((rd_T82 l0 x14_1).f0))).setCell ⟨gb449, 1, none⟩ (.int .i64 ((rd_T82 l0 x14_1).f1))) w.heap.size (fun k_ => k_ ≠ gb449) u5 x5_1) := ⟨by (with_reducible repeat (first | apply Kd.R_alloc | apply Kd.R_drewN | apply Kd.R_drew)); exact Kd.R_mono (Kd.R_far (p := ⟨gb449, 1, none⟩) (Kd.R_far (p := ⟨gb449, 0, none⟩) (Kd.R_mono HO_5.out (fun k_ hk => (⟨hk, hk.2⟩ : _ ∧ k_ ≠ gb449))) (fun _ hk => hk.2) (.string ((rd_T82 l0 x14_1).f0))) (fun _ hk => hk.2) (.int .i64 ((rd_T82 l0 x14_1).f1))) (fun _ hk => hk.1.2)⟩
            have n1_ : Aside0 (((w15.setCell ⟨gb449, 0, none⟩ (.string ((rd_T82 l0 x14_1).f0))).setCell ⟨gb449, 1, none⟩ (.int .i64 ((rd_T82 l0 x14_1).f1))).heap[gb447]? = some (.cells #[.int .i64 a1_0, .int .i64 a1_1] 24 (0, 0))) := ⟨by (with_reducible repeat (first | refine blk_drewN ?_ _ | refine blk_drew ?_ | refine blk_alloc ?_ _)); refine blk_far ?_ NB447_449.out _; (with_reducible repeat (first | refine blk_drewN ?_ _ | refine blk_drew ?_ | refine blk_alloc ?_ _)); refine blk_far ?_ NB447_449.out _; (with_reducible repeat (first | refine blk_drewN ?_ _ | refine blk_drew ?_ | refine blk_alloc ?_ _)); exact BK447.out⟩
            have n2_ : Aside0 (((w15.setCell ⟨gb449, 0, none⟩ (.string ((rd_T82 l0 x14_1).f0))).setCell ⟨gb449, 1, none⟩ (.int .i64 ((rd_T82 l0 x14_1).f1))).heap[gb449]? = some (.cells #[.string ((rd_T82 l0 x14_1).f0), .int .i64 ((rd_T82 l0 x14_1).f1)] 82 (0, 0))) := ⟨by (with_reducible repeat (first | refine blk_drewN ?_ _ | refine blk_drew ?_ | refine blk_alloc ?_ _)); refine blk_put (cs := #[.string ((rd_T82 l0 x14_1).f0), .int .i64 0]) ?_ 1 _ rfl; (with_reducible repeat (first | refine blk_drewN ?_ _ | refine blk_drew ?_ | refine blk_alloc ?_ _)); refine blk_put (cs := #[.string (⟨#[]⟩ : ByteArray), .int .i64 0]) ?_ 0 _ rfl; (with_reducible repeat (first | refine blk_drewN ?_ _ | refine blk_drew ?_ | refine blk_alloc ?_ _)); exact BK449.out⟩
            have n3_ : Aside0 (Below w.heap.size w ((w15.setCell ⟨gb449, 0, none⟩ (.string ((rd_T82 l0 x14_1).f0))).setCell ⟨gb449, 1, none⟩ (.int .i64 ((rd_T82 l0 x14_1).f1)))) := ⟨pxb HB⟩
            (try clear HO_5)
            (try clear BK447)
            (try clear BK449)
            (try clear HB)
            generalize ((w15.setCell ⟨gb449, 0, none⟩ (.string ((rd_T82 l0 x14_1).f0))).setCell ⟨gb449, 1, none⟩ (.int .i64 ((rd_T82 l0 x14_1).f1))) = w18 at n0_ n1_ n2_ n3_ ⊢
            have HO_5 := n0_
            have BK447 := n1_
            have BK449 := n2_
            have HB := n3_
            clear n0_ n1_ n2_ n3_
            have n0_ := Aside0.mk (Kd.R_drew HO_5.out)
            have n1_ := Aside0.mk (blk_drew BK447.out)
            have n2_ := Aside0.mk (blk_drew BK449.out)
            have n3_ := Aside0.mk (below_drew1 HB.out)
            clear HO_5
            clear BK447
            clear BK449
            clear HB
            have HO_5 := n0_
            have BK447 := n1_
            have BK449 := n2_
            have HB := n3_
            clear n0_ n1_ n2_ n3_
            refine start_ (n := 15) (S := fun w' => w'.cell? ⟨gb447, 0, none⟩ = some (.int .i64 a1_0) ∧ w'.cell? ⟨gb447, 1, none⟩ = some (.int .i64 a1_1) ∧ w'.cell? ⟨gb449, 0, none⟩ = some (.string ((rd_T82 l0 x14_1).f0)) ∧ w'.cell? ⟨gb449, 1, none⟩ = some (.int .i64 ((rd_T82 l0 x14_1).f1))) (ds := []) #[false, false, false, false, false, false, false, false, false, false, false, false, false, false, false] (by kernel_rfl) rfl rfl ⟨(blk_cell BK447.out 0).trans rfl, (blk_cell BK447.out 1).trans rfl, (blk_cell BK449.out 0).trans rfl, (blk_cell BK449.out 1).trans rfl⟩ (fun hHeld => ?_); refine with_tabW edit_cut.tab6 edit_cut.bits6 (fun HT_ HW_ => ?_)
            generalize w18.drew = w19 at HO_5 BK447 BK449 HB hHeld ⊢
            refine pure_ (i := 0) (N := some 18) (v := ?_) (a' := ?_) #[true, false, false, false, false, false, false, false, false, false, false, false, false, false, false] rfl rfl (any_of HT_.out (by kernel_rfl)) (fun _ _ _ h => h) (Or.inl ⟨by rfl, ?_⟩) ?_ ?_
            rotate_left
            ·intro w'
             go_simp
             with_reducible rfl
            rotate_left
            ·simp only [Act.put, List.setIfInBounds_toArray, List.set_cons_zero, List.set_cons_succ, i64_w, i32_w]
             rfl
            refine pure_ (i := 2) (N := some 20) (v := ?_) (a' := ?_) #[true, false, true, false, false, false, false, false, false, false, false, false, false, false, false] rfl rfl (any_of HT_.out (by kernel_rfl)) (fun _ _ _ h => h) (Or.inl ⟨by rfl, ?_⟩) ?_ ?_
            rotate_left
            ·intro w'
             go_simp
             with_reducible rfl
            rotate_left
            ·simp only [Act.put, List.setIfInBounds_toArray, List.set_cons_zero, List.set_cons_succ, i64_w, i32_w]
             rfl
            refine pure_ (i := 5) (N := some 23) (v := ?_) (a' := ?_) #[true, false, true, false, false, true, false, false, false, false, false, false, false, false, false] rfl rfl (any_of HT_.out (by kernel_rfl)) (fun _ _ _ h => h) (Or.inl ⟨by rfl, ?_⟩) ?_ ?_
            rotate_left
            ·intro w'
             go_simp
             with_reducible rfl
            rotate_left
            ·simp only [Act.put, List.setIfInBounds_toArray, List.set_cons_zero, List.set_cons_succ, i64_w, i32_w]
             rfl
            refine pure_ (i := 7) (N := some 25) (v := ?_) (a' := ?_) #[true, false, true, false, false, true, false, true, false, false, false, false, false, false, false] rfl rfl (any_of HT_.out (by kernel_rfl)) (fun _ _ _ h => h) (Or.inl ⟨by rfl, ?_⟩) ?_ ?_
            rotate_left
            ·intro w'
             go_simp
             with_reducible rfl
            rotate_left
            ·simp only [Act.put, List.setIfInBounds_toArray, List.set_cons_zero, List.set_cons_succ, i64_w, i32_w]
             rfl
            refine pure_ (i := 9) (N := some 27) (v := ?_) (a' := ?_) #[true, false, true, false, false, true, false, true, false, true, false, false, false, false, false] rfl rfl (any_of HT_.out (by kernel_rfl)) (fun _ _ _ h => h) (Or.inl ⟨by rfl, ?_⟩) ?_ ?_
            rotate_left
            ·intro w'
             go_simp
             with_reducible rfl
            rotate_left
            ·simp only [Act.put, List.setIfInBounds_toArray, List.set_cons_zero, List.set_cons_succ, i64_w, i32_w]
             rfl
            refine take_ (i := 1) (N := some 19) (v := ?_) (a' := ?_) #[true, true, true, false, false, true, false, true, false, true, false, false, false, false, false] rfl rfl (take_ofW HT_.out HW_.out (by kernel_rfl)) (fun _ _ _ h => h) (Or.inl ⟨by rfl, ?_⟩) hHeld ?_ ?_
            rotate_left
            ·rintro w' ⟨s0, s1, s2, s3⟩
             go_simp
             with_reducible rfl
            rotate_left
            ·simp only [Act.put, List.setIfInBounds_toArray, List.set_cons_zero, List.set_cons_succ, i64_w, i32_w]
             rfl
            refine pure_ (i := 3) (N := some 21) (v := ?_) (a' := ?_) #[true, true, true, true, false, true, false, true, false, true, false, false, false, false, false] rfl rfl (any_of HT_.out (by kernel_rfl)) (fun _ _ _ h => h) (Or.inl ⟨by rfl, ?_⟩) ?_ ?_
            rotate_left
            ·intro w'
             go_simp
             with_reducible rfl
            rotate_left
            ·simp only [Act.put, List.setIfInBounds_toArray, List.set_cons_zero, List.set_cons_succ, i64_w, i32_w]
             rfl
            refine pure_ (i := 4) (N := some 22) (v := ?_) (a' := ?_) #[true, true, true, true, true, true, false, true, false, true, false, false, false, false, false] rfl rfl (any_of HT_.out (by kernel_rfl)) (fun _ _ _ h => h) (Or.inl ⟨by rfl, ?_⟩) ?_ ?_
            rotate_left
            ·intro w'
             go_simp
             with_reducible rfl
            rotate_left
            ·simp only [Act.put, List.setIfInBounds_toArray, List.set_cons_zero, List.set_cons_succ, i64_w, i32_w]
             rfl
            refine pure_ (i := 13) (N := some 9) (v := ?_) (a' := ?_) #[true, true, true, true, true, true, false, true, false, true, false, false, false, true, false] rfl rfl (any_of HT_.out (by kernel_rfl)) (fun _ _ _ h => h) (Or.inl ⟨by rfl, ?_⟩) ?_ ?_
            rotate_left
            ·intro w'
             go_simp
             with_reducible rfl
            rotate_left
            ·simp only [Act.put, List.setIfInBounds_toArray, List.set_cons_zero, List.set_cons_succ, i64_w, i32_w]
             rfl
            refine take_ (i := 6) (N := some 24) (v := ?_) (a' := ?_) #[true, true, true, true, true, true, true, true, false, true, false, false, false, true, false] rfl rfl (take_ofW HT_.out HW_.out (by kernel_rfl)) (fun _ _ _ h => h) (Or.inl ⟨by rfl, ?_⟩) hHeld ?_ ?_
            rotate_left
            ·rintro w' ⟨s0, s1, s2, s3⟩
             go_simp
             with_reducible rfl
            rotate_left
            ·simp only [Act.put, List.setIfInBounds_toArray, List.set_cons_zero, List.set_cons_succ, i64_w, i32_w]
             rfl
            refine pure_ (i := 8) (N := some 26) (v := ?_) (a' := ?_) #[true, true, true, true, true, true, true, true, true, true, false, false, false, true, false] rfl rfl (any_of HT_.out (by kernel_rfl)) (fun _ _ _ h => h) (Or.inl ⟨by rfl, ?_⟩) ?_ ?_
            rotate_left
            ·intro w'
             go_simp
             with_reducible rfl
            rotate_left
            ·simp only [Act.put, List.setIfInBounds_toArray, List.set_cons_zero, List.set_cons_succ, i64_w, i32_w]
             rfl
            refine take_ (i := 10) (N := some 28) (v := ?_) (a' := ?_) #[true, true, true, true, true, true, true, true, true, true, true, false, false, true, false] rfl rfl (take_ofW HT_.out HW_.out (by kernel_rfl)) (fun _ _ _ h => h) (Or.inl ⟨by rfl, ?_⟩) hHeld ?_ ?_
            rotate_left
            ·rintro w' ⟨s0, s1, s2, s3⟩
             go_simp
             with_reducible rfl
            rotate_left
            ·simp only [Act.put, List.setIfInBounds_toArray, List.set_cons_zero, List.set_cons_succ, i64_w, i32_w]
             rfl
            refine pure_ (i := 11) (N := some 29) (v := ?_) (a' := ?_) #[true, true, true, true, true, true, true, true, true, true, true, true, false, true, false] rfl rfl (any_of HT_.out (by kernel_rfl)) (fun _ _ _ h => h) (Or.inl ⟨by rfl, ?_⟩) ?_ ?_
            rotate_left
            ·intro w'
             go_simp
             with_reducible rfl
            rotate_left
            ·simp only [Act.put, List.setIfInBounds_toArray, List.set_cons_zero, List.set_cons_succ, i64_w, i32_w]
             rfl
            refine pure_ (i := 12) (N := some 30) (v := ?_) (a' := ?_) #[true, true, true, true, true, true, true, true, true, true, true, true, true, true, false] rfl rfl (any_of HT_.out (by kernel_rfl)) (fun _ _ _ h => h) (Or.inl ⟨by rfl, ?_⟩) ?_ ?_
            rotate_left
            ·intro w'
             go_simp
             with_reducible rfl
            rotate_left
            ·simp only [Act.put, List.setIfInBounds_toArray, List.set_cons_zero, List.set_cons_succ, i64_w, i32_w]
             rfl
            refine pure_ (i := 14) (N := some 10) (v := ?_) (a' := ?_) #[true, true, true, true, true, true, true, true, true, true, true, true, true, true, true] rfl rfl (any_of HT_.out (by kernel_rfl)) (fun _ _ _ h => h) (Or.inl ⟨by rfl, ?_⟩) ?_ ?_
            rotate_left
            ·intro w'
             go_simp
             with_reducible rfl
            rotate_left
            ·simp only [Act.put, List.setIfInBounds_toArray, List.set_cons_zero, List.set_cons_succ, i64_w, i32_w]
             rfl
            refine done_ (done_of HT_.out (by kernel_rfl)) ?_
            try go_wp2
            have n0_ := Aside0.mk (Kd.R_drew HO_5.out)
            have n1_ := Aside0.mk (blk_drew BK447.out)
            have n2_ := Aside0.mk (blk_drew BK449.out)
            have n3_ := Aside0.mk (below_drew1 HB.out)
            clear HO_5
            clear BK447
            clear BK449
            clear HB
            have HO_5 := n0_
            have BK447 := n1_
            have BK449 := n2_
            have HB := n3_
            clear n0_ n1_ n2_ n3_
            refine start_ (n := 10) (S := fun w' => w'.cell? ⟨gb449, 0, none⟩ = some (.string ((rd_T82 l0 x14_1).f0)) ∧ w'.cell? ⟨gb449, 1, none⟩ = some (.int .i64 ((rd_T82 l0 x14_1).f1))) (ds := []) #[false, false, false, false, false, false, false, false, false, false] (by kernel_rfl) rfl rfl ⟨(blk_cell BK449.out 0).trans rfl, (blk_cell BK449.out 1).trans rfl⟩ (fun hHeld => ?_); refine with_tabW edit_cut.tab8 edit_cut.bits8 (fun HT_ HW_ => ?_)
            generalize w19.drew = w20 at HO_5 BK447 BK449 HB hHeld ⊢
            refine pure_ (i := 0) (N := some 34) (v := ?_) (a' := ?_) #[true, false, false, false, false, false, false, false, false, false] rfl rfl (any_of HT_.out (by kernel_rfl)) (fun _ _ _ h => h) (Or.inl ⟨by rfl, ?_⟩) ?_ ?_
            rotate_left
            ·intro w'
             go_simp
             with_reducible rfl
            rotate_left
            ·simp only [Act.put, List.setIfInBounds_toArray, List.set_cons_zero, List.set_cons_succ, i64_w, i32_w]
             rfl
            refine pure_ (i := 2) (N := some 36) (v := ?_) (a' := ?_) #[true, false, true, false, false, false, false, false, false, false] rfl rfl (any_of HT_.out (by kernel_rfl)) (fun _ _ _ h => h) (Or.inl ⟨by rfl, ?_⟩) ?_ ?_
            rotate_left
            ·intro w'
             go_simp
             with_reducible rfl
            rotate_left
            ·simp only [Act.put, List.setIfInBounds_toArray, List.set_cons_zero, List.set_cons_succ, i64_w, i32_w]
             rfl
            refine pure_ (i := 3) (N := some 37) (v := ?_) (a' := ?_) #[true, false, true, true, false, false, false, false, false, false] rfl rfl (any_of HT_.out (by kernel_rfl)) (fun _ _ _ h => h) (Or.inl ⟨by rfl, ?_⟩) ?_ ?_
            rotate_left
            ·intro w'
             go_simp
             with_reducible rfl
            rotate_left
            ·simp only [Act.put, List.setIfInBounds_toArray, List.set_cons_zero, List.set_cons_succ, i64_w, i32_w]
             rfl
            refine pure_ (i := 5) (N := some 39) (v := ?_) (a' := ?_) #[true, false, true, true, false, true, false, false, false, false] rfl rfl (any_of HT_.out (by kernel_rfl)) (fun _ _ _ h => h) (Or.inl ⟨by rfl, ?_⟩) ?_ ?_
            rotate_left
            ·intro w'
             go_simp
             with_reducible rfl
            rotate_left
            ·simp only [Act.put, List.setIfInBounds_toArray, List.set_cons_zero, List.set_cons_succ, i64_w, i32_w]
             rfl
            refine take_ (i := 1) (N := some 35) (v := ?_) (a' := ?_) #[true, true, true, true, false, true, false, false, false, false] rfl rfl (take_ofW HT_.out HW_.out (by kernel_rfl)) (fun _ _ _ h => h) (Or.inl ⟨by rfl, ?_⟩) hHeld ?_ ?_
            rotate_left
            ·rintro w' ⟨s0, s1⟩
             go_simp
             with_reducible rfl
            rotate_left
            ·simp only [Act.put, List.setIfInBounds_toArray, List.set_cons_zero, List.set_cons_succ, i64_w, i32_w]
             rfl
            refine pure_ (i := 4) (N := some 38) (v := ?_) (a' := ?_) #[true, true, true, true, true, true, false, false, false, false] rfl rfl (any_of HT_.out (by kernel_rfl)) (fun _ _ _ h => h) (Or.inl ⟨by rfl, ?_⟩) ?_ ?_
            rotate_left
            ·intro w'
             go_simp
             with_reducible rfl
            rotate_left
            ·simp only [Act.put, List.setIfInBounds_toArray, List.set_cons_zero, List.set_cons_succ, i64_w, i32_w]
             rfl
            refine take_ (i := 6) (N := some 40) (v := ?_) (a' := ?_) #[true, true, true, true, true, true, true, false, false, false] rfl rfl (take_ofW HT_.out HW_.out (by kernel_rfl)) (fun _ _ _ h => h) (Or.inl ⟨by rfl, ?_⟩) hHeld ?_ ?_
            rotate_left
            ·rintro w' ⟨s0, s1⟩
             go_simp
             with_reducible rfl
            rotate_left
            ·simp only [Act.put, List.setIfInBounds_toArray, List.set_cons_zero, List.set_cons_succ, i64_w, i32_w]
             rfl
            refine pure_ (i := 7) (N := some 41) (v := ?_) (a' := ?_) #[true, true, true, true, true, true, true, true, false, false] rfl rfl (any_of HT_.out (by kernel_rfl)) (fun _ _ _ h => h) (Or.inl ⟨by rfl, ?_⟩) ?_ ?_
            rotate_left
            ·intro w'
             go_simp
             with_reducible rfl
            rotate_left
            ·simp only [Act.put, List.setIfInBounds_toArray, List.set_cons_zero, List.set_cons_succ, i64_w, i32_w]
             rfl
            refine one_ (i := 8) (N := some 11) #[true, true, true, true, true, true, true, true, true, false] rfl rfl (one_of HT_.out (by kernel_rfl)) (by decide) (fun K hK => ?_)
            refine box_step ?hg (N := 11) ?hd (cs := #[.string (⟨#[]⟩ : ByteArray), .int .i64 0]) (t := 82) ?hr ?_; (case hd => rfl); (case hg => rfl); (case hr => first | (go_simp; done) | (go_simp; rfl))
            intro gb450 hg w21 hbox hb
            have n0_ := Aside0.mk (Kd.R_below (Kd.R_elderB (pxr HO_5) gb450 (Nat.le_of_eq hg.symm)) hb)
            have n1_ := pxk BK447 hb
            have n2_ := pxk BK449 hb
            have n3_ := pxs HB hb
            have n4_ := Aside0.mk (hbox)
            have n5_ := Aside0.mk ((by rw [hg]; exact (below_size (pxb HB)) : w.heap.size ≤ gb450))
            have n6_ := Aside0.mk ((by rw [hg]; exact (below_size (pxb HB)) : w.heap.size ≤ gb450))
            have n7_ := Aside0.mk ((by rw [hg]; exact Nat.ne_of_lt (blk_lt (g := gb447) (o := .cells #[.int .i64 a1_0, .int .i64 a1_1] 24 (0, 0)) (pxq BK447)) : gb447 ≠ gb450))
            have n8_ := Aside0.mk ((by rw [hg]; exact Nat.ne_of_gt (blk_lt (g := gb447) (o := .cells #[.int .i64 a1_0, .int .i64 a1_1] 24 (0, 0)) (pxq BK447)) : gb450 ≠ gb447))
            have n9_ := Aside0.mk ((by rw [hg]; exact Nat.ne_of_lt (blk_lt (g := gb449) (o := .cells #[.string ((rd_T82 l0 x14_1).f0), .int .i64 ((rd_T82 l0 x14_1).f1)] 82 (0, 0)) (pxq BK449)) : gb449 ≠ gb450))
            have n10_ := Aside0.mk ((by rw [hg]; exact Nat.ne_of_gt (blk_lt (g := gb449) (o := .cells #[.string ((rd_T82 l0 x14_1).f0), .int .i64 ((rd_T82 l0 x14_1).f1)] 82 (0, 0)) (pxq BK449)) : gb450 ≠ gb449))
            clear HO_5
            clear BK447
            clear BK449
            clear HB
            have HO_5 := n0_
            have BK447 := n1_
            have BK449 := n2_
            have HB := n3_
            have BK450 := n4_
            have GW450 := n5_
            have GE450 := n6_
            have NB447_450 := n7_
            have NB450_447 := n8_
            have NB449_450 := n9_
            have NB450_449 := n10_
            clear n0_ n1_ n2_ n3_ n4_ n5_ n6_ n7_ n8_ n9_ n10_
            clear hb hbox hg
            refine hK.out _ _ ⟨(blk_cell BK449.out 0).trans rfl, (blk_cell BK449.out 1).trans rfl⟩ (fun hHeld => ?_)
            clear hK K
            refine norm_ (a' := ?_) ?_ ?_
            rotate_left
            ·show Act.put _ (some 11) _ = _
             simp only [Act.put, List.setIfInBounds_toArray, List.set_cons_zero, List.set_cons_succ, i64_w, i32_w]
             rfl
            refine one_ (i := 9) (N := none) #[true, true, true, true, true, true, true, true, true, true] rfl rfl (one_of HT_.out (by kernel_rfl)) (by decide) (fun K hK => ?_)
            have hs22 : w21.cell? ⟨gb450, 0, none⟩ = some (.string (⟨#[]⟩ : ByteArray)) := (blk_cell BK450.out 0).trans rfl
            have hfs22 := blk_frozen BK450.out 0
            have hns22_0 := NB447_450.out
            have hns22_1 := NB449_450.out
            have hms22_0 := NB450_447.out
            have hms22_1 := NB450_449.out
            have hs23 : w21.cell? ⟨gb450, 1, none⟩ = some (.int .i64 0) := (blk_cell BK450.out 1).trans rfl
            have hfs23 := blk_frozen BK450.out 1
            have hns23_0 := NB447_450.out
            have hns23_1 := NB449_450.out
            have hms23_0 := NB450_447.out
            have hms23_1 := NB450_449.out
            refine skip_ (w1 := ?_) (by rfl) rfl ?_ ?_
            rotate_left
            ·go_simp
             rfl
            refine hK.out _ _ ⟨((cell_far (p := ⟨gb450, _, none⟩) NB449_450.out _).trans (((cell_far (p := ⟨gb450, _, none⟩) NB449_450.out _).trans (hHeld.1)))), ((cell_far (p := ⟨gb450, _, none⟩) NB449_450.out _).trans (((cell_far (p := ⟨gb450, _, none⟩) NB449_450.out _).trans (hHeld.2))))⟩ (fun hHeld => ?_)
            clear hK K
            refine done_ (done_of HT_.out (by kernel_rfl)) ?_
            have hnb24 := NB450_447.out
            have hnc24 := NB447_450.out
            have hnb25 := NB450_449.out
            have hnc25 := NB449_450.out
            have hcz26_0 : w21.cell? ⟨gb450, 0, none⟩ = some (.string (⟨#[]⟩ : ByteArray)) := (blk_cell BK450.out 0).trans rfl
            have hcz26_1 : w21.cell? ⟨gb450, 1, none⟩ = some (.int .i64 0) := (blk_cell BK450.out 1).trans rfl
            have hfz26_0 := blk_frozen BK450.out 0
            have hfz26_1 := blk_frozen BK450.out 1
            have hq1_ : ((w21.setCell ⟨gb450, 0, none⟩ (.string (((rd_T82 l0 x14_1).f0).extract ((ji7) : Int).toNat ((ji8) : Int).toNat))).setCell ⟨gb450, 1, none⟩ (.int .i64 ((rd_T82 l0 x14_1).f1))).cell? ⟨gb450, 1, none⟩ = some (.int .i64 ((rd_T82 l0 x14_1).f1)) := (blk_cell (blk_put (cs := #[.string (((rd_T82 l0 x14_1).f0).extract ((ji7) : Int).toNat ((ji8) : Int).toNat), .int .i64 0]) (blk_put (cs := #[.string (⟨#[]⟩ : ByteArray), .int .i64 0]) BK450.out 0 (.string (((rd_T82 l0 x14_1).f0).extract ((ji7) : Int).toNat ((ji8) : Int).toNat)) rfl) 1 (.int .i64 ((rd_T82 l0 x14_1).f1)) rfl) 1).trans rfl
            have hq2_ : (((w21.setCell ⟨gb450, 0, none⟩ (.string (((rd_T82 l0 x14_1).f0).extract ((ji7) : Int).toNat ((ji8) : Int).toNat))).setCell ⟨gb450, 1, none⟩ (.int .i64 ((rd_T82 l0 x14_1).f1))).setCell ⟨gb450, 1, none⟩ (.int .i64 (wrap64 (((rd_T82 l0 x14_1).f1) + (ji7))))).cell? ⟨gb450, 1, none⟩ = some (.int .i64 (wrap64 (((rd_T82 l0 x14_1).f1) + (ji7)))) := (blk_cell (blk_put (cs := #[.string (((rd_T82 l0 x14_1).f0).extract ((ji7) : Int).toNat ((ji8) : Int).toNat), .int .i64 ((rd_T82 l0 x14_1).f1)]) (blk_put (cs := #[.string (((rd_T82 l0 x14_1).f0).extract ((ji7) : Int).toNat ((ji8) : Int).toNat), .int .i64 0]) (blk_put (cs := #[.string (⟨#[]⟩ : ByteArray), .int .i64 0]) BK450.out 0 (.string (((rd_T82 l0 x14_1).f0).extract ((ji7) : Int).toNat ((ji8) : Int).toNat)) rfl) 1 (.int .i64 ((rd_T82 l0 x14_1).f1)) rfl) 1 (.int .i64 (wrap64 (((rd_T82 l0 x14_1).f1) + (ji7)))) rfl) 1).trans rfl
            have hq3_ : (((w21.setCell ⟨gb450, 0, none⟩ (.string (((rd_T82 l0 x14_1).f0).extract ((ji7) : Int).toNat ((ji8) : Int).toNat))).setCell ⟨gb450, 1, none⟩ (.int .i64 ((rd_T82 l0 x14_1).f1))).setCell ⟨gb450, 1, none⟩ (.int .i64 (wrap64 (((rd_T82 l0 x14_1).f1) + (ji7))))).cell? ⟨gb450, 0, none⟩ = some (.string (((rd_T82 l0 x14_1).f0).extract ((ji7) : Int).toNat ((ji8) : Int).toNat)) := (blk_cell (blk_put (cs := #[.string (((rd_T82 l0 x14_1).f0).extract ((ji7) : Int).toNat ((ji8) : Int).toNat), .int .i64 ((rd_T82 l0 x14_1).f1)]) (blk_put (cs := #[.string (((rd_T82 l0 x14_1).f0).extract ((ji7) : Int).toNat ((ji8) : Int).toNat), .int .i64 0]) (blk_put (cs := #[.string (⟨#[]⟩ : ByteArray), .int .i64 0]) BK450.out 0 (.string (((rd_T82 l0 x14_1).f0).extract ((ji7) : Int).toNat ((ji8) : Int).toNat)) rfl) 1 (.int .i64 ((rd_T82 l0 x14_1).f1)) rfl) 1 (.int .i64 (wrap64 (((rd_T82 l0 x14_1).f1) + (ji7)))) rfl) 0).trans rfl
            try go_wp2_with (first | ((with_reducible refine gate_builtin (b := .append) (xs := #[.tmp 50, .tmp 52]) rfl ?_); at_builtin; refine Kd.R_append k82 (w0 := w) w.heap.size rfl (.tmp 50) (.tmp 52) 77 82 (.agg #[(.string ⟨#[]⟩), (.int .i64 0)]) 24 rfl Try.underlying77 info82 rfl (by decide) (by omega) u5 x5_1 (⟨((rd_T82 l0 x14_1).f0).extract ((ji7) : Int).toNat ((ji8) : Int).toNat, wrap64 (((rd_T82 l0 x14_1).f1) + (ji7))⟩ : S82) [.string (((rd_T82 l0 x14_1).f0).extract ((ji7) : Int).toNat ((ji8) : Int).toNat), .int .i64 (wrap64 (((rd_T82 l0 x14_1).f1) + (ji7)))] (fun k_ => k_ ≠ gb449 ∧ k_ ≠ gb450) (fun _ => False) rfl (by first | (go_simp; done) | (go_simp; rfl)) ?aP (fun _ hk => hk.elim) ?aF ?aO ?aB ?aS ?aL ?_; (case aP => exact k82_mkM _ _ _ (⟨((rd_T82 l0 x14_1).f0).extract ((ji7) : Int).toNat ((ji8) : Int).toNat, wrap64 (((rd_T82 l0 x14_1).f1) + (ji7))⟩ : S82)); (case aB => exact (pxb HB)); (case aF => exact (fun k_ hk => ⟨Kd.freshB (g := gb449) (o := .cells #[.string ((rd_T82 l0 x14_1).f0), .int .i64 ((rd_T82 l0 x14_1).f1)] 82 (0, 0)) (by (with_reducible repeat (first | refine blk_drewN ?_ _ | refine blk_drew ?_ | refine blk_alloc ?_ _)); refine blk_far ?_ NB449_450.out _; (with_reducible repeat (first | refine blk_drewN ?_ _ | refine blk_drew ?_ | refine blk_alloc ?_ _)); refine blk_far ?_ NB449_450.out _; (with_reducible repeat (first | refine blk_drewN ?_ _ | refine blk_drew ?_ | refine blk_alloc ?_ _)); refine blk_far ?_ NB449_450.out _; (with_reducible repeat (first | refine blk_drewN ?_ _ | refine blk_drew ?_ | refine blk_alloc ?_ _)); exact BK449.out) k_ hk, Kd.freshB (g := gb450) (o := .cells #[.string (((rd_T82 l0 x14_1).f0).extract ((ji7) : Int).toNat ((ji8) : Int).toNat), .int .i64 (wrap64 (((rd_T82 l0 x14_1).f1) + (ji7)))] 82 (0, 0)) (by (with_reducible repeat (first | refine blk_drewN ?_ _ | refine blk_drew ?_ | refine blk_alloc ?_ _)); refine blk_put (cs := #[.string (((rd_T82 l0 x14_1).f0).extract ((ji7) : Int).toNat ((ji8) : Int).toNat), .int .i64 ((rd_T82 l0 x14_1).f1)]) ?_ 1 _ rfl; (with_reducible repeat (first | refine blk_drewN ?_ _ | refine blk_drew ?_ | refine blk_alloc ?_ _)); refine blk_put (cs := #[.string (((rd_T82 l0 x14_1).f0).extract ((ji7) : Int).toNat ((ji8) : Int).toNat), .int .i64 0]) ?_ 1 _ rfl; (with_reducible repeat (first | refine blk_drewN ?_ _ | refine blk_drew ?_ | refine blk_alloc ?_ _)); refine blk_put (cs := #[.string (⟨#[]⟩ : ByteArray), .int .i64 0]) ?_ 0 _ rfl; (with_reducible repeat (first | refine blk_drewN ?_ _ | refine blk_drew ?_ | refine blk_alloc ?_ _)); exact BK450.out) k_ hk⟩)); (case aO => exact (by (with_reducible repeat (first | apply Kd.R_alloc | apply Kd.R_drewN | apply Kd.R_drew)); exact Kd.R_mono (Kd.R_far (p := ⟨gb450, 1, none⟩) (Kd.R_far (p := ⟨gb450, 1, none⟩) (Kd.R_far (p := ⟨gb450, 0, none⟩) (Kd.R_mono HO_5.out (fun k_ hk => (⟨hk, hk.2⟩ : _ ∧ k_ ≠ gb450))) (fun _ hk => hk.2) (.string (((rd_T82 l0 x14_1).f0).extract ((ji7) : Int).toNat ((ji8) : Int).toNat))) (fun _ hk => hk.2) (.int .i64 ((rd_T82 l0 x14_1).f1))) (fun _ hk => hk.2) (.int .i64 (wrap64 (((rd_T82 l0 x14_1).f1) + (ji7))))) (fun _ hk => ⟨hk.1.1, hk.1.2⟩))); (case aS => exact (below_size (pxb HB))); (case aL => have := LMc14.out; omega); intro v452 w27 ho hb hg hat; rw [← Ny451.out] at ho; have n0_ := Aside0.mk (blk_grown (g := gb447) (o := .cells #[.int .i64 a1_0, .int .i64 a1_1] 24 (0, 0)) (by (with_reducible repeat (first | refine blk_drewN ?_ _ | refine blk_drew ?_ | refine blk_alloc ?_ _)); refine blk_far ?_ NB447_450.out _; (with_reducible repeat (first | refine blk_drewN ?_ _ | refine blk_drew ?_ | refine blk_alloc ?_ _)); refine blk_far ?_ NB447_450.out _; (with_reducible repeat (first | refine blk_drewN ?_ _ | refine blk_drew ?_ | refine blk_alloc ?_ _)); refine blk_far ?_ NB447_450.out _; (with_reducible repeat (first | refine blk_drewN ?_ _ | refine blk_drew ?_ | refine blk_alloc ?_ _)); exact BK447.out) hg (Kd.R_ne HO_5.out BK447.out (by decide))); have n1_ := Aside0.mk (blk_grown (g := gb449) (o := .cells #[.string ((rd_T82 l0 x14_1).f0), .int .i64 ((rd_T82 l0 x14_1).f1)] 82 (0, 0)) (by (with_reducible repeat (first | refine blk_drewN ?_ _ | refine blk_drew ?_ | refine blk_alloc ?_ _)); refine blk_far ?_ NB449_450.out _; (with_reducible repeat (first | refine blk_drewN ?_ _ | refine blk_drew ?_ | refine blk_alloc ?_ _)); refine blk_far ?_ NB449_450.out _; (with_reducible repeat (first | refine blk_drewN ?_ _ | refine blk_drew ?_ | refine blk_alloc ?_ _)); refine blk_far ?_ NB449_450.out _; (with_reducible repeat (first | refine blk_drewN ?_ _ | refine blk_drew ?_ | refine blk_alloc ?_ _)); exact BK449.out) hg (Kd.R_away HO_5.out (fun _ hk => hk.1))); have n2_ := Aside0.mk (blk_grown (g := gb450) (o := .cells #[.string (((rd_T82 l0 x14_1).f0).extract ((ji7) : Int).toNat ((ji8) : Int).toNat), .int .i64 (wrap64 (((rd_T82 l0 x14_1).f1) + (ji7)))] 82 (0, 0)) (by (with_reducible repeat (first | refine blk_drewN ?_ _ | refine blk_drew ?_ | refine blk_alloc ?_ _)); refine blk_put (cs := #[.string (((rd_T82 l0 x14_1).f0).extract ((ji7) : Int).toNat ((ji8) : Int).toNat), .int .i64 ((rd_T82 l0 x14_1).f1)]) ?_ 1 _ rfl; (with_reducible repeat (first | refine blk_drewN ?_ _ | refine blk_drew ?_ | refine blk_alloc ?_ _)); refine blk_put (cs := #[.string (((rd_T82 l0 x14_1).f0).extract ((ji7) : Int).toNat ((ji8) : Int).toNat), .int .i64 0]) ?_ 1 _ rfl; (with_reducible repeat (first | refine blk_drewN ?_ _ | refine blk_drew ?_ | refine blk_alloc ?_ _)); refine blk_put (cs := #[.string (⟨#[]⟩ : ByteArray), .int .i64 0]) ?_ 0 _ rfl; (with_reducible repeat (first | refine blk_drewN ?_ _ | refine blk_drew ?_ | refine blk_alloc ?_ _)); exact BK450.out) hg (Kd.R_away HO_5.out (fun _ hk => hk.2))); have n3_ := Aside0.mk (hb); have n4_ := Aside0.mk (ho); clear BK447; clear BK449; clear BK450; clear HB; clear HO_5; have BK447 := n0_; have BK449 := n1_; have BK450 := n2_; have HB := n3_; have HO453 := n4_; clear n0_ n1_ n2_ n3_ n4_; clear ho hb hg hat; have hcz28_0 : w27.cell? ⟨gb449, 0, none⟩ = some (.string ((rd_T82 l0 x14_1).f0)) := (blk_cell BK449.out 0).trans rfl; have hcz28_1 : w27.cell? ⟨gb449, 1, none⟩ = some (.int .i64 ((rd_T82 l0 x14_1).f1)) := (blk_cell BK449.out 1).trans rfl; have hfz28_0 := blk_frozen BK449.out 0; have hfz28_1 := blk_frozen BK449.out 1))
            go_roundg k1
            case measure => have := HK1.out; omega
            case rel => exact ⟨(y451), (wrap64 (x6_1 + (((rd_T82 l0 x14_1).f0).size : Int))), (wrap64 (x14_1 + 1)), (by first | rfl | (simp; done) | (simp [*]; done)), (by first | rfl | (simp; done) | (simp [*]; done)), H', ⟨by have := HK1.out; omega⟩, ⟨by (with_reducible repeat (first | apply Kd.R_alloc | apply Kd.R_drewN | apply Kd.R_drew)); exact Kd.R_mono HO453.out (fun _ hk => trivial)⟩, ⟨pxq BK447⟩, ⟨pxb HB⟩⟩
           ·rw [if_neg c14] at H
            exact absurd H (by simp)
          ·rw [if_neg c13] at H
           have c13b0 : decide (0 ≤ ((rd_T82 l0 x14_1).f1)) = false := decide_eq_false c13
           clear c13
           by_cases c29 : x5_1.length < 5864062014805
           ·rw [if_pos c29] at H
            have LMc29 := Aside0.mk c29
            clear c29
            obtain ⟨y454, hy454⟩ : ∃ y_ : List (S82), y_ = (x5_1 ++ [(⟨((rd_T82 l0 x14_1).f0).extract ((ji7) : Int).toNat ((ji8) : Int).toNat, (rd_T82 l0 x14_1).f1⟩ : S82)]) := ⟨_, rfl⟩
            replace H : (edit_cut.l0 k1 y454 (wrap64 (x6_1 + (((rd_T82 l0 x14_1).f0).size : Int))) l0 (l0.length : Int) (wrap64 (x14_1 + 1)) a1_0 a1_1) = some r := by first | (rw [hy454]; with_reducible exact H) | (have H2_ := (Option.bind_some _ _).symm.trans H; rw [hy454]; with_reducible exact H2_) | (have H2_ := (Option.bind_some _ _).symm.trans H; with_reducible exact H2_) | with_reducible exact H | (rw [hy454]; exact H) | exact H
            have Ny454 := Aside0.mk hy454
            clear hy454
            have H' := Aside0.mk H
            clear H
            have p448 : 0 ≤ (x14_1 : Int) := of_decide_eq_true (by first | (with_reducible assumption) | assumption)
            have q448 : x14_1 < (l0.length : Int) := of_decide_eq_true (by first | (with_reducible assumption) | assumption)
            obtain ⟨ad448, e448, hx448_0, hx448_1⟩ := at_T82 HR0.out x14_1 p448 q448
            cases e448
            replace hx448_0 := (HB.out.cell (World.block_lt_of_cell? w _ hx448_0)).trans hx448_0
            replace hx448_1 := (HB.out.cell (World.block_lt_of_cell? w _ hx448_1)).trans hx448_1
            replace p448 := eq_true p448
            replace q448 := eq_true q448
            try go_wp2_with (first | ((with_reducible refine gate_dst (N := 8) rfl ?_); refine box_event ?hg (N := 8) ?hd (cs := #[.string (⟨#[]⟩ : ByteArray), .int .i64 0]) (t := 82) ?hr ?_; (case hd => rfl); (case hg => rfl); (case hr => first | (go_simp; done) | (go_simp; rfl)); intro gb449 hg w30 hbox hb; have n0_ := Aside0.mk (Kd.R_below (Kd.R_elderB (pxr HO_5) gb449 (Nat.le_of_eq hg.symm)) hb); have n1_ := pxk BK447 hb; have n2_ := pxs HB hb; have n3_ := Aside0.mk (hbox); have n4_ := Aside0.mk ((by rw [hg]; exact (below_size (pxb HB)) : w.heap.size ≤ gb449)); have n5_ := Aside0.mk ((by rw [hg]; exact (below_size (pxb HB)) : w.heap.size ≤ gb449)); have n6_ := Aside0.mk ((by rw [hg]; exact Nat.ne_of_lt (blk_lt (g := gb447) (o := .cells #[.int .i64 a1_0, .int .i64 a1_1] 24 (0, 0)) (pxq BK447)) : gb447 ≠ gb449)); have n7_ := Aside0.mk ((by rw [hg]; exact Nat.ne_of_gt (blk_lt (g := gb447) (o := .cells #[.int .i64 a1_0, .int .i64 a1_1] 24 (0, 0)) (pxq BK447)) : gb449 ≠ gb447)); clear HO_5; clear BK447; clear HB; have HO_5 := n0_; have BK447 := n1_; have HB := n2_; have BK449 := n3_; have GW449 := n4_; have GE449 := n5_; have NB447_449 := n6_; have NB449_447 := n7_; clear n0_ n1_ n2_ n3_ n4_ n5_ n6_ n7_; clear hb hbox hg; have hnb31 := NB449_447.out; have hnc31 := NB447_449.out; have hcz32_0 : w30.cell? ⟨gb449, 0, none⟩ = some (.string (⟨#[]⟩ : ByteArray)) := (blk_cell BK449.out 0).trans rfl; have hcz32_1 : w30.cell? ⟨gb449, 1, none⟩ = some (.int .i64 0) := (blk_cell BK449.out 1).trans rfl; have hfz32_0 := blk_frozen BK449.out 0; have hfz32_1 := blk_frozen BK449.out 1))
            have n0_ : Aside0 (Kd.R k82 82 ((w30.setCell ⟨gb449, 0, none⟩ (.string ((rd_T82 l0 x14_1).f0))).setCell ⟨gb449, 1, none⟩ (.int .i64 ((rd_T82 l0 x14_1).f1))) w.heap.size (fun k_ => k_ ≠ gb449) u5 x5_1) := ⟨by (with_reducible repeat (first | apply Kd.R_alloc | apply Kd.R_drewN | apply Kd.R_drew)); exact Kd.R_mono (Kd.R_far (p := ⟨gb449, 1, none⟩) (Kd.R_far (p := ⟨gb449, 0, none⟩) (Kd.R_mono HO_5.out (fun k_ hk => (⟨hk, hk.2⟩ : _ ∧ k_ ≠ gb449))) (fun _ hk => hk.2) (.string ((rd_T82 l0 x14_1).f0))) (fun _ hk => hk.2) (.int .i64 ((rd_T82 l0 x14_1).f1))) (fun _ hk => hk.1.2)⟩
            have n1_ : Aside0 (((w30.setCell ⟨gb449, 0, none⟩ (.string ((rd_T82 l0 x14_1).f0))).setCell ⟨gb449, 1, none⟩ (.int .i64 ((rd_T82 l0 x14_1).f1))).heap[gb447]? = some (.cells #[.int .i64 a1_0, .int .i64 a1_1] 24 (0, 0))) := ⟨by (with_reducible repeat (first | refine blk_drewN ?_ _ | refine blk_drew ?_ | refine blk_alloc ?_ _)); refine blk_far ?_ NB447_449.out _; (with_reducible repeat (first | refine blk_drewN ?_ _ | refine blk_drew ?_ | refine blk_alloc ?_ _)); refine blk_far ?_ NB447_449.out _; (with_reducible repeat (first | refine blk_drewN ?_ _ | refine blk_drew ?_ | refine blk_alloc ?_ _)); exact BK447.out⟩
            have n2_ : Aside0 (((w30.setCell ⟨gb449, 0, none⟩ (.string ((rd_T82 l0 x14_1).f0))).setCell ⟨gb449, 1, none⟩ (.int .i64 ((rd_T82 l0 x14_1).f1))).heap[gb449]? = some (.cells #[.string ((rd_T82 l0 x14_1).f0), .int .i64 ((rd_T82 l0 x14_1).f1)] 82 (0, 0))) := ⟨by (with_reducible repeat (first | refine blk_drewN ?_ _ | refine blk_drew ?_ | refine blk_alloc ?_ _)); refine blk_put (cs := #[.string ((rd_T82 l0 x14_1).f0), .int .i64 0]) ?_ 1 _ rfl; (with_reducible repeat (first | refine blk_drewN ?_ _ | refine blk_drew ?_ | refine blk_alloc ?_ _)); refine blk_put (cs := #[.string (⟨#[]⟩ : ByteArray), .int .i64 0]) ?_ 0 _ rfl; (with_reducible repeat (first | refine blk_drewN ?_ _ | refine blk_drew ?_ | refine blk_alloc ?_ _)); exact BK449.out⟩
            have n3_ : Aside0 (Below w.heap.size w ((w30.setCell ⟨gb449, 0, none⟩ (.string ((rd_T82 l0 x14_1).f0))).setCell ⟨gb449, 1, none⟩ (.int .i64 ((rd_T82 l0 x14_1).f1)))) := ⟨pxb HB⟩
            (try clear HO_5)
            (try clear BK447)
            (try clear BK449)
            (try clear HB)
            generalize ((w30.setCell ⟨gb449, 0, none⟩ (.string ((rd_T82 l0 x14_1).f0))).setCell ⟨gb449, 1, none⟩ (.int .i64 ((rd_T82 l0 x14_1).f1))) = w33 at n0_ n1_ n2_ n3_ ⊢
            have HO_5 := n0_
            have BK447 := n1_
            have BK449 := n2_
            have HB := n3_
            clear n0_ n1_ n2_ n3_
            have n0_ := Aside0.mk (Kd.R_drew HO_5.out)
            have n1_ := Aside0.mk (blk_drew BK447.out)
            have n2_ := Aside0.mk (blk_drew BK449.out)
            have n3_ := Aside0.mk (below_drew1 HB.out)
            clear HO_5
            clear BK447
            clear BK449
            clear HB
            have HO_5 := n0_
            have BK447 := n1_
            have BK449 := n2_
            have HB := n3_
            clear n0_ n1_ n2_ n3_
            refine start_ (n := 15) (S := fun w' => w'.cell? ⟨gb447, 0, none⟩ = some (.int .i64 a1_0) ∧ w'.cell? ⟨gb447, 1, none⟩ = some (.int .i64 a1_1) ∧ w'.cell? ⟨gb449, 0, none⟩ = some (.string ((rd_T82 l0 x14_1).f0)) ∧ w'.cell? ⟨gb449, 1, none⟩ = some (.int .i64 ((rd_T82 l0 x14_1).f1))) (ds := []) #[false, false, false, false, false, false, false, false, false, false, false, false, false, false, false] (by kernel_rfl) rfl rfl ⟨(blk_cell BK447.out 0).trans rfl, (blk_cell BK447.out 1).trans rfl, (blk_cell BK449.out 0).trans rfl, (blk_cell BK449.out 1).trans rfl⟩ (fun hHeld => ?_); refine with_tabW edit_cut.tab6 edit_cut.bits6 (fun HT_ HW_ => ?_)
            generalize w33.drew = w34 at HO_5 BK447 BK449 HB hHeld ⊢
            refine pure_ (i := 0) (N := some 18) (v := ?_) (a' := ?_) #[true, false, false, false, false, false, false, false, false, false, false, false, false, false, false] rfl rfl (any_of HT_.out (by kernel_rfl)) (fun _ _ _ h => h) (Or.inl ⟨by rfl, ?_⟩) ?_ ?_
            rotate_left
            ·intro w'
             go_simp
             with_reducible rfl
            rotate_left
            ·simp only [Act.put, List.setIfInBounds_toArray, List.set_cons_zero, List.set_cons_succ, i64_w, i32_w]
             rfl
            refine pure_ (i := 2) (N := some 20) (v := ?_) (a' := ?_) #[true, false, true, false, false, false, false, false, false, false, false, false, false, false, false] rfl rfl (any_of HT_.out (by kernel_rfl)) (fun _ _ _ h => h) (Or.inl ⟨by rfl, ?_⟩) ?_ ?_
            rotate_left
            ·intro w'
             go_simp
             with_reducible rfl
            rotate_left
            ·simp only [Act.put, List.setIfInBounds_toArray, List.set_cons_zero, List.set_cons_succ, i64_w, i32_w]
             rfl
            refine pure_ (i := 5) (N := some 23) (v := ?_) (a' := ?_) #[true, false, true, false, false, true, false, false, false, false, false, false, false, false, false] rfl rfl (any_of HT_.out (by kernel_rfl)) (fun _ _ _ h => h) (Or.inl ⟨by rfl, ?_⟩) ?_ ?_
            rotate_left
            ·intro w'
             go_simp
             with_reducible rfl
            rotate_left
            ·simp only [Act.put, List.setIfInBounds_toArray, List.set_cons_zero, List.set_cons_succ, i64_w, i32_w]
             rfl
            refine pure_ (i := 7) (N := some 25) (v := ?_) (a' := ?_) #[true, false, true, false, false, true, false, true, false, false, false, false, false, false, false] rfl rfl (any_of HT_.out (by kernel_rfl)) (fun _ _ _ h => h) (Or.inl ⟨by rfl, ?_⟩) ?_ ?_
            rotate_left
            ·intro w'
             go_simp
             with_reducible rfl
            rotate_left
            ·simp only [Act.put, List.setIfInBounds_toArray, List.set_cons_zero, List.set_cons_succ, i64_w, i32_w]
             rfl
            refine pure_ (i := 9) (N := some 27) (v := ?_) (a' := ?_) #[true, false, true, false, false, true, false, true, false, true, false, false, false, false, false] rfl rfl (any_of HT_.out (by kernel_rfl)) (fun _ _ _ h => h) (Or.inl ⟨by rfl, ?_⟩) ?_ ?_
            rotate_left
            ·intro w'
             go_simp
             with_reducible rfl
            rotate_left
            ·simp only [Act.put, List.setIfInBounds_toArray, List.set_cons_zero, List.set_cons_succ, i64_w, i32_w]
             rfl
            refine take_ (i := 1) (N := some 19) (v := ?_) (a' := ?_) #[true, true, true, false, false, true, false, true, false, true, false, false, false, false, false] rfl rfl (take_ofW HT_.out HW_.out (by kernel_rfl)) (fun _ _ _ h => h) (Or.inl ⟨by rfl, ?_⟩) hHeld ?_ ?_
            rotate_left
            ·rintro w' ⟨s0, s1, s2, s3⟩
             go_simp
             with_reducible rfl
            rotate_left
            ·simp only [Act.put, List.setIfInBounds_toArray, List.set_cons_zero, List.set_cons_succ, i64_w, i32_w]
             rfl
            refine pure_ (i := 3) (N := some 21) (v := ?_) (a' := ?_) #[true, true, true, true, false, true, false, true, false, true, false, false, false, false, false] rfl rfl (any_of HT_.out (by kernel_rfl)) (fun _ _ _ h => h) (Or.inl ⟨by rfl, ?_⟩) ?_ ?_
            rotate_left
            ·intro w'
             go_simp
             with_reducible rfl
            rotate_left
            ·simp only [Act.put, List.setIfInBounds_toArray, List.set_cons_zero, List.set_cons_succ, i64_w, i32_w]
             rfl
            refine pure_ (i := 4) (N := some 22) (v := ?_) (a' := ?_) #[true, true, true, true, true, true, false, true, false, true, false, false, false, false, false] rfl rfl (any_of HT_.out (by kernel_rfl)) (fun _ _ _ h => h) (Or.inl ⟨by rfl, ?_⟩) ?_ ?_
            rotate_left
            ·intro w'
             go_simp
             with_reducible rfl
            rotate_left
            ·simp only [Act.put, List.setIfInBounds_toArray, List.set_cons_zero, List.set_cons_succ, i64_w, i32_w]
             rfl
            refine pure_ (i := 13) (N := some 9) (v := ?_) (a' := ?_) #[true, true, true, true, true, true, false, true, false, true, false, false, false, true, false] rfl rfl (any_of HT_.out (by kernel_rfl)) (fun _ _ _ h => h) (Or.inl ⟨by rfl, ?_⟩) ?_ ?_
            rotate_left
            ·intro w'
             go_simp
             with_reducible rfl
            rotate_left
            ·simp only [Act.put, List.setIfInBounds_toArray, List.set_cons_zero, List.set_cons_succ, i64_w, i32_w]
             rfl
            refine take_ (i := 6) (N := some 24) (v := ?_) (a' := ?_) #[true, true, true, true, true, true, true, true, false, true, false, false, false, true, false] rfl rfl (take_ofW HT_.out HW_.out (by kernel_rfl)) (fun _ _ _ h => h) (Or.inl ⟨by rfl, ?_⟩) hHeld ?_ ?_
            rotate_left
            ·rintro w' ⟨s0, s1, s2, s3⟩
             go_simp
             with_reducible rfl
            rotate_left
            ·simp only [Act.put, List.setIfInBounds_toArray, List.set_cons_zero, List.set_cons_succ, i64_w, i32_w]
             rfl
            refine pure_ (i := 8) (N := some 26) (v := ?_) (a' := ?_) #[true, true, true, true, true, true, true, true, true, true, false, false, false, true, false] rfl rfl (any_of HT_.out (by kernel_rfl)) (fun _ _ _ h => h) (Or.inl ⟨by rfl, ?_⟩) ?_ ?_
            rotate_left
            ·intro w'
             go_simp
             with_reducible rfl
            rotate_left
            ·simp only [Act.put, List.setIfInBounds_toArray, List.set_cons_zero, List.set_cons_succ, i64_w, i32_w]
             rfl
            refine take_ (i := 10) (N := some 28) (v := ?_) (a' := ?_) #[true, true, true, true, true, true, true, true, true, true, true, false, false, true, false] rfl rfl (take_ofW HT_.out HW_.out (by kernel_rfl)) (fun _ _ _ h => h) (Or.inl ⟨by rfl, ?_⟩) hHeld ?_ ?_
            rotate_left
            ·rintro w' ⟨s0, s1, s2, s3⟩
             go_simp
             with_reducible rfl
            rotate_left
            ·simp only [Act.put, List.setIfInBounds_toArray, List.set_cons_zero, List.set_cons_succ, i64_w, i32_w]
             rfl
            refine pure_ (i := 11) (N := some 29) (v := ?_) (a' := ?_) #[true, true, true, true, true, true, true, true, true, true, true, true, false, true, false] rfl rfl (any_of HT_.out (by kernel_rfl)) (fun _ _ _ h => h) (Or.inl ⟨by rfl, ?_⟩) ?_ ?_
            rotate_left
            ·intro w'
             go_simp
             with_reducible rfl
            rotate_left
            ·simp only [Act.put, List.setIfInBounds_toArray, List.set_cons_zero, List.set_cons_succ, i64_w, i32_w]
             rfl
            refine pure_ (i := 12) (N := some 30) (v := ?_) (a' := ?_) #[true, true, true, true, true, true, true, true, true, true, true, true, true, true, false] rfl rfl (any_of HT_.out (by kernel_rfl)) (fun _ _ _ h => h) (Or.inl ⟨by rfl, ?_⟩) ?_ ?_
            rotate_left
            ·intro w'
             go_simp
             with_reducible rfl
            rotate_left
            ·simp only [Act.put, List.setIfInBounds_toArray, List.set_cons_zero, List.set_cons_succ, i64_w, i32_w]
             rfl
            refine pure_ (i := 14) (N := some 10) (v := ?_) (a' := ?_) #[true, true, true, true, true, true, true, true, true, true, true, true, true, true, true] rfl rfl (any_of HT_.out (by kernel_rfl)) (fun _ _ _ h => h) (Or.inl ⟨by rfl, ?_⟩) ?_ ?_
            rotate_left
            ·intro w'
             go_simp
             with_reducible rfl
            rotate_left
            ·simp only [Act.put, List.setIfInBounds_toArray, List.set_cons_zero, List.set_cons_succ, i64_w, i32_w]
             rfl
            refine done_ (done_of HT_.out (by kernel_rfl)) ?_
            try go_wp2
            have n0_ := Aside0.mk (Kd.R_drew HO_5.out)
            have n1_ := Aside0.mk (blk_drew BK447.out)
            have n2_ := Aside0.mk (blk_drew BK449.out)
            have n3_ := Aside0.mk (below_drew1 HB.out)
            clear HO_5
            clear BK447
            clear BK449
            clear HB
            have HO_5 := n0_
            have BK447 := n1_
            have BK449 := n2_
            have HB := n3_
            clear n0_ n1_ n2_ n3_
            refine start_ (n := 10) (S := fun w' => w'.cell? ⟨gb449, 0, none⟩ = some (.string ((rd_T82 l0 x14_1).f0)) ∧ w'.cell? ⟨gb449, 1, none⟩ = some (.int .i64 ((rd_T82 l0 x14_1).f1))) (ds := []) #[false, false, false, false, false, false, false, false, false, false] (by kernel_rfl) rfl rfl ⟨(blk_cell BK449.out 0).trans rfl, (blk_cell BK449.out 1).trans rfl⟩ (fun hHeld => ?_); refine with_tabW edit_cut.tab8 edit_cut.bits8 (fun HT_ HW_ => ?_)
            generalize w34.drew = w35 at HO_5 BK447 BK449 HB hHeld ⊢
            refine pure_ (i := 0) (N := some 34) (v := ?_) (a' := ?_) #[true, false, false, false, false, false, false, false, false, false] rfl rfl (any_of HT_.out (by kernel_rfl)) (fun _ _ _ h => h) (Or.inl ⟨by rfl, ?_⟩) ?_ ?_
            rotate_left
            ·intro w'
             go_simp
             with_reducible rfl
            rotate_left
            ·simp only [Act.put, List.setIfInBounds_toArray, List.set_cons_zero, List.set_cons_succ, i64_w, i32_w]
             rfl
            refine pure_ (i := 2) (N := some 36) (v := ?_) (a' := ?_) #[true, false, true, false, false, false, false, false, false, false] rfl rfl (any_of HT_.out (by kernel_rfl)) (fun _ _ _ h => h) (Or.inl ⟨by rfl, ?_⟩) ?_ ?_
            rotate_left
            ·intro w'
             go_simp
             with_reducible rfl
            rotate_left
            ·simp only [Act.put, List.setIfInBounds_toArray, List.set_cons_zero, List.set_cons_succ, i64_w, i32_w]
             rfl
            refine pure_ (i := 3) (N := some 37) (v := ?_) (a' := ?_) #[true, false, true, true, false, false, false, false, false, false] rfl rfl (any_of HT_.out (by kernel_rfl)) (fun _ _ _ h => h) (Or.inl ⟨by rfl, ?_⟩) ?_ ?_
            rotate_left
            ·intro w'
             go_simp
             with_reducible rfl
            rotate_left
            ·simp only [Act.put, List.setIfInBounds_toArray, List.set_cons_zero, List.set_cons_succ, i64_w, i32_w]
             rfl
            refine pure_ (i := 5) (N := some 39) (v := ?_) (a' := ?_) #[true, false, true, true, false, true, false, false, false, false] rfl rfl (any_of HT_.out (by kernel_rfl)) (fun _ _ _ h => h) (Or.inl ⟨by rfl, ?_⟩) ?_ ?_
            rotate_left
            ·intro w'
             go_simp
             with_reducible rfl
            rotate_left
            ·simp only [Act.put, List.setIfInBounds_toArray, List.set_cons_zero, List.set_cons_succ, i64_w, i32_w]
             rfl
            refine take_ (i := 1) (N := some 35) (v := ?_) (a' := ?_) #[true, true, true, true, false, true, false, false, false, false] rfl rfl (take_ofW HT_.out HW_.out (by kernel_rfl)) (fun _ _ _ h => h) (Or.inl ⟨by rfl, ?_⟩) hHeld ?_ ?_
            rotate_left
            ·rintro w' ⟨s0, s1⟩
             go_simp
             with_reducible rfl
            rotate_left
            ·simp only [Act.put, List.setIfInBounds_toArray, List.set_cons_zero, List.set_cons_succ, i64_w, i32_w]
             rfl
            refine pure_ (i := 4) (N := some 38) (v := ?_) (a' := ?_) #[true, true, true, true, true, true, false, false, false, false] rfl rfl (any_of HT_.out (by kernel_rfl)) (fun _ _ _ h => h) (Or.inl ⟨by rfl, ?_⟩) ?_ ?_
            rotate_left
            ·intro w'
             go_simp
             with_reducible rfl
            rotate_left
            ·simp only [Act.put, List.setIfInBounds_toArray, List.set_cons_zero, List.set_cons_succ, i64_w, i32_w]
             rfl
            refine take_ (i := 6) (N := some 40) (v := ?_) (a' := ?_) #[true, true, true, true, true, true, true, false, false, false] rfl rfl (take_ofW HT_.out HW_.out (by kernel_rfl)) (fun _ _ _ h => h) (Or.inl ⟨by rfl, ?_⟩) hHeld ?_ ?_
            rotate_left
            ·rintro w' ⟨s0, s1⟩
             go_simp
             with_reducible rfl
            rotate_left
            ·simp only [Act.put, List.setIfInBounds_toArray, List.set_cons_zero, List.set_cons_succ, i64_w, i32_w]
             rfl
            refine pure_ (i := 7) (N := some 41) (v := ?_) (a' := ?_) #[true, true, true, true, true, true, true, true, false, false] rfl rfl (any_of HT_.out (by kernel_rfl)) (fun _ _ _ h => h) (Or.inl ⟨by rfl, ?_⟩) ?_ ?_
            rotate_left
            ·intro w'
             go_simp
             with_reducible rfl
            rotate_left
            ·simp only [Act.put, List.setIfInBounds_toArray, List.set_cons_zero, List.set_cons_succ, i64_w, i32_w]
             rfl
            refine one_ (i := 8) (N := some 11) #[true, true, true, true, true, true, true, true, true, false] rfl rfl (one_of HT_.out (by kernel_rfl)) (by decide) (fun K hK => ?_)
            refine box_step ?hg (N := 11) ?hd (cs := #[.string (⟨#[]⟩ : ByteArray), .int .i64 0]) (t := 82) ?hr ?_; (case hd => rfl); (case hg => rfl); (case hr => first | (go_simp; done) | (go_simp; rfl))
            intro gb450 hg w36 hbox hb
            have n0_ := Aside0.mk (Kd.R_below (Kd.R_elderB (pxr HO_5) gb450 (Nat.le_of_eq hg.symm)) hb)
            have n1_ := pxk BK447 hb
            have n2_ := pxk BK449 hb
            have n3_ := pxs HB hb
            have n4_ := Aside0.mk (hbox)
            have n5_ := Aside0.mk ((by rw [hg]; exact (below_size (pxb HB)) : w.heap.size ≤ gb450))
            have n6_ := Aside0.mk ((by rw [hg]; exact (below_size (pxb HB)) : w.heap.size ≤ gb450))
            have n7_ := Aside0.mk ((by rw [hg]; exact Nat.ne_of_lt (blk_lt (g := gb447) (o := .cells #[.int .i64 a1_0, .int .i64 a1_1] 24 (0, 0)) (pxq BK447)) : gb447 ≠ gb450))
            have n8_ := Aside0.mk ((by rw [hg]; exact Nat.ne_of_gt (blk_lt (g := gb447) (o := .cells #[.int .i64 a1_0, .int .i64 a1_1] 24 (0, 0)) (pxq BK447)) : gb450 ≠ gb447))
            have n9_ := Aside0.mk ((by rw [hg]; exact Nat.ne_of_lt (blk_lt (g := gb449) (o := .cells #[.string ((rd_T82 l0 x14_1).f0), .int .i64 ((rd_T82 l0 x14_1).f1)] 82 (0, 0)) (pxq BK449)) : gb449 ≠ gb450))
            have n10_ := Aside0.mk ((by rw [hg]; exact Nat.ne_of_gt (blk_lt (g := gb449) (o := .cells #[.string ((rd_T82 l0 x14_1).f0), .int .i64 ((rd_T82 l0 x14_1).f1)] 82 (0, 0)) (pxq BK449)) : gb450 ≠ gb449))
            clear HO_5
            clear BK447
            clear BK449
            clear HB
            have HO_5 := n0_
            have BK447 := n1_
            have BK449 := n2_
            have HB := n3_
            have BK450 := n4_
            have GW450 := n5_
            have GE450 := n6_
            have NB447_450 := n7_
            have NB450_447 := n8_
            have NB449_450 := n9_
            have NB450_449 := n10_
            clear n0_ n1_ n2_ n3_ n4_ n5_ n6_ n7_ n8_ n9_ n10_
            clear hb hbox hg
            refine hK.out _ _ ⟨(blk_cell BK449.out 0).trans rfl, (blk_cell BK449.out 1).trans rfl⟩ (fun hHeld => ?_)
            clear hK K
            refine norm_ (a' := ?_) ?_ ?_
            rotate_left
            ·show Act.put _ (some 11) _ = _
             simp only [Act.put, List.setIfInBounds_toArray, List.set_cons_zero, List.set_cons_succ, i64_w, i32_w]
             rfl
            refine one_ (i := 9) (N := none) #[true, true, true, true, true, true, true, true, true, true] rfl rfl (one_of HT_.out (by kernel_rfl)) (by decide) (fun K hK => ?_)
            have hs37 : w36.cell? ⟨gb450, 0, none⟩ = some (.string (⟨#[]⟩ : ByteArray)) := (blk_cell BK450.out 0).trans rfl
            have hfs37 := blk_frozen BK450.out 0
            have hns37_0 := NB447_450.out
            have hns37_1 := NB449_450.out
            have hms37_0 := NB450_447.out
            have hms37_1 := NB450_449.out
            have hs38 : w36.cell? ⟨gb450, 1, none⟩ = some (.int .i64 0) := (blk_cell BK450.out 1).trans rfl
            have hfs38 := blk_frozen BK450.out 1
            have hns38_0 := NB447_450.out
            have hns38_1 := NB449_450.out
            have hms38_0 := NB450_447.out
            have hms38_1 := NB450_449.out
            refine skip_ (w1 := ?_) (by rfl) rfl ?_ ?_
            rotate_left
            ·go_simp
             rfl
            refine hK.out _ _ ⟨((cell_far (p := ⟨gb450, _, none⟩) NB449_450.out _).trans (((cell_far (p := ⟨gb450, _, none⟩) NB449_450.out _).trans (hHeld.1)))), ((cell_far (p := ⟨gb450, _, none⟩) NB449_450.out _).trans (((cell_far (p := ⟨gb450, _, none⟩) NB449_450.out _).trans (hHeld.2))))⟩ (fun hHeld => ?_)
            clear hK K
            refine done_ (done_of HT_.out (by kernel_rfl)) ?_
            have hnb39 := NB450_447.out
            have hnc39 := NB447_450.out
            have hnb40 := NB450_449.out
            have hnc40 := NB449_450.out
            have hcz41_0 : w36.cell? ⟨gb450, 0, none⟩ = some (.string (⟨#[]⟩ : ByteArray)) := (blk_cell BK450.out 0).trans rfl
            have hcz41_1 : w36.cell? ⟨gb450, 1, none⟩ = some (.int .i64 0) := (blk_cell BK450.out 1).trans rfl
            have hfz41_0 := blk_frozen BK450.out 0
            have hfz41_1 := blk_frozen BK450.out 1
            try go_wp2_with (first | ((with_reducible refine gate_builtin (b := .append) (xs := #[.tmp 50, .tmp 52]) rfl ?_); at_builtin; refine Kd.R_append k82 (w0 := w) w.heap.size rfl (.tmp 50) (.tmp 52) 77 82 (.agg #[(.string ⟨#[]⟩), (.int .i64 0)]) 24 rfl Try.underlying77 info82 rfl (by decide) (by omega) u5 x5_1 (⟨((rd_T82 l0 x14_1).f0).extract ((ji7) : Int).toNat ((ji8) : Int).toNat, (rd_T82 l0 x14_1).f1⟩ : S82) [.string (((rd_T82 l0 x14_1).f0).extract ((ji7) : Int).toNat ((ji8) : Int).toNat), .int .i64 ((rd_T82 l0 x14_1).f1)] (fun k_ => k_ ≠ gb449 ∧ k_ ≠ gb450) (fun _ => False) rfl (by first | (go_simp; done) | (go_simp; rfl)) ?aP (fun _ hk => hk.elim) ?aF ?aO ?aB ?aS ?aL ?_; (case aP => exact k82_mkM _ _ _ (⟨((rd_T82 l0 x14_1).f0).extract ((ji7) : Int).toNat ((ji8) : Int).toNat, (rd_T82 l0 x14_1).f1⟩ : S82)); (case aB => exact (pxb HB)); (case aF => exact (fun k_ hk => ⟨Kd.freshB (g := gb449) (o := .cells #[.string ((rd_T82 l0 x14_1).f0), .int .i64 ((rd_T82 l0 x14_1).f1)] 82 (0, 0)) (by (with_reducible repeat (first | refine blk_drewN ?_ _ | refine blk_drew ?_ | refine blk_alloc ?_ _)); refine blk_far ?_ NB449_450.out _; (with_reducible repeat (first | refine blk_drewN ?_ _ | refine blk_drew ?_ | refine blk_alloc ?_ _)); refine blk_far ?_ NB449_450.out _; (with_reducible repeat (first | refine blk_drewN ?_ _ | refine blk_drew ?_ | refine blk_alloc ?_ _)); exact BK449.out) k_ hk, Kd.freshB (g := gb450) (o := .cells #[.string (((rd_T82 l0 x14_1).f0).extract ((ji7) : Int).toNat ((ji8) : Int).toNat), .int .i64 ((rd_T82 l0 x14_1).f1)] 82 (0, 0)) (by (with_reducible repeat (first | refine blk_drewN ?_ _ | refine blk_drew ?_ | refine blk_alloc ?_ _)); refine blk_put (cs := #[.string (((rd_T82 l0 x14_1).f0).extract ((ji7) : Int).toNat ((ji8) : Int).toNat), .int .i64 0]) ?_ 1 _ rfl; (with_reducible repeat (first | refine blk_drewN ?_ _ | refine blk_drew ?_ | refine blk_alloc ?_ _)); refine blk_put (cs := #[.string (⟨#[]⟩ : ByteArray), .int .i64 0]) ?_ 0 _ rfl; (with_reducible repeat (first | refine blk_drewN ?_ _ | refine blk_drew ?_ | refine blk_alloc ?_ _)); exact BK450.out) k_ hk⟩)); (case aO => exact (by (with_reducible repeat (first | apply Kd.R_alloc | apply Kd.R_drewN | apply Kd.R_drew)); exact Kd.R_mono (Kd.R_far (p := ⟨gb450, 1, none⟩) (Kd.R_far (p := ⟨gb450, 0, none⟩) (Kd.R_mono HO_5.out (fun k_ hk => (⟨hk, hk.2⟩ : _ ∧ k_ ≠ gb450))) (fun _ hk => hk.2) (.string (((rd_T82 l0 x14_1).f0).extract ((ji7) : Int).toNat ((ji8) : Int).toNat))) (fun _ hk => hk.2) (.int .i64 ((rd_T82 l0 x14_1).f1))) (fun _ hk => ⟨hk.1.1, hk.1.2⟩))); (case aS => exact (below_size (pxb HB))); (case aL => have := LMc29.out; omega); intro v455 w42 ho hb hg hat; rw [← Ny454.out] at ho; have n0_ := Aside0.mk (blk_grown (g := gb447) (o := .cells #[.int .i64 a1_0, .int .i64 a1_1] 24 (0, 0)) (by (with_reducible repeat (first | refine blk_drewN ?_ _ | refine blk_drew ?_ | refine blk_alloc ?_ _)); refine blk_far ?_ NB447_450.out _; (with_reducible repeat (first | refine blk_drewN ?_ _ | refine blk_drew ?_ | refine blk_alloc ?_ _)); refine blk_far ?_ NB447_450.out _; (with_reducible repeat (first | refine blk_drewN ?_ _ | refine blk_drew ?_ | refine blk_alloc ?_ _)); exact BK447.out) hg (Kd.R_ne HO_5.out BK447.out (by decide))); have n1_ := Aside0.mk (blk_grown (g := gb449) (o := .cells #[.string ((rd_T82 l0 x14_1).f0), .int .i64 ((rd_T82 l0 x14_1).f1)] 82 (0, 0)) (by (with_reducible repeat (first | refine blk_drewN ?_ _ | refine blk_drew ?_ | refine blk_alloc ?_ _)); refine blk_far ?_ NB449_450.out _; (with_reducible repeat (first | refine blk_drewN ?_ _ | refine blk_drew ?_ | refine blk_alloc ?_ _)); refine blk_far ?_ NB449_450.out _; (with_reducible repeat (first | refine blk_drewN ?_ _ | refine blk_drew ?_ | refine blk_alloc ?_ _)); exact BK449.out) hg (Kd.R_away HO_5.out (fun _ hk => hk.1))); have n2_ := Aside0.mk (blk_grown (g := gb450) (o := .cells #[.string (((rd_T82 l0 x14_1).f0).extract ((ji7) : Int).toNat ((ji8) : Int).toNat), .int .i64 ((rd_T82 l0 x14_1).f1)] 82 (0, 0)) (by (with_reducible repeat (first | refine blk_drewN ?_ _ | refine blk_drew ?_ | refine blk_alloc ?_ _)); refine blk_put (cs := #[.string (((rd_T82 l0 x14_1).f0).extract ((ji7) : Int).toNat ((ji8) : Int).toNat), .int .i64 0]) ?_ 1 _ rfl; (with_reducible repeat (first | refine blk_drewN ?_ _ | refine blk_drew ?_ | refine blk_alloc ?_ _)); refine blk_put (cs := #[.string (⟨#[]⟩ : ByteArray), .int .i64 0]) ?_ 0 _ rfl; (with_reducible repeat (first | refine blk_drewN ?_ _ | refine blk_drew ?_ | refine blk_alloc ?_ _)); exact BK450.out) hg (Kd.R_away HO_5.out (fun _ hk => hk.2))); have n3_ := Aside0.mk (hb); have n4_ := Aside0.mk (ho); clear BK447; clear BK449; clear BK450; clear HB; clear HO_5; have BK447 := n0_; have BK449 := n1_; have BK450 := n2_; have HB := n3_; have HO456 := n4_; clear n0_ n1_ n2_ n3_ n4_; clear ho hb hg hat; have hcz43_0 : w42.cell? ⟨gb449, 0, none⟩ = some (.string ((rd_T82 l0 x14_1).f0)) := (blk_cell BK449.out 0).trans rfl; have hcz43_1 : w42.cell? ⟨gb449, 1, none⟩ = some (.int .i64 ((rd_T82 l0 x14_1).f1)) := (blk_cell BK449.out 1).trans rfl; have hfz43_0 := blk_frozen BK449.out 0; have hfz43_1 := blk_frozen BK449.out 1))
            go_roundg k1
            case measure => have := HK1.out; omega
            case rel => exact ⟨(y454), (wrap64 (x6_1 + (((rd_T82 l0 x14_1).f0).size : Int))), (wrap64 (x14_1 + 1)), (by first | rfl | (simp; done) | (simp [*]; done)), (by first | rfl | (simp; done) | (simp [*]; done)), H', ⟨by have := HK1.out; omega⟩, ⟨by (with_reducible repeat (first | apply Kd.R_alloc | apply Kd.R_drewN | apply Kd.R_drew)); exact Kd.R_mono HO456.out (fun _ hk => trivial)⟩, ⟨pxq BK447⟩, ⟨pxb HB⟩⟩
           ·rw [if_neg c29] at H
            exact absurd H (by simp)
         ·rw [if_neg c12] at H
          exact absurd H (by simp)
        ·rw [if_neg c11] at H
         exact absurd H (by simp)
       ·rw [if_neg c10] at H
        exact absurd H (by simp)
      ·rw [if_neg c9] at H
       have c9b0 : decide ((ji7) < (ji8)) = false := decide_eq_false c9
       clear c9
       have H' := Aside0.mk H
       clear H
       have p448 : 0 ≤ (x14_1 : Int) := of_decide_eq_true (by first | (with_reducible assumption) | assumption)
       have q448 : x14_1 < (l0.length : Int) := of_decide_eq_true (by first | (with_reducible assumption) | assumption)
       obtain ⟨ad448, e448, hx448_0, hx448_1⟩ := at_T82 HR0.out x14_1 p448 q448
       cases e448
       replace hx448_0 := (HB.out.cell (World.block_lt_of_cell? w _ hx448_0)).trans hx448_0
       replace hx448_1 := (HB.out.cell (World.block_lt_of_cell? w _ hx448_1)).trans hx448_1
       replace p448 := eq_true p448
       replace q448 := eq_true q448
       try go_wp2_with (first | ((with_reducible refine gate_dst (N := 8) rfl ?_); refine box_event ?hg (N := 8) ?hd (cs := #[.string (⟨#[]⟩ : ByteArray), .int .i64 0]) (t := 82) ?hr ?_; (case hd => rfl); (case hg => rfl); (case hr => first | (go_simp; done) | (go_simp; rfl)); intro gb449 hg w44 hbox hb; have n0_ := Aside0.mk (Kd.R_below (Kd.R_elderB (pxr HO_5) gb449 (Nat.le_of_eq hg.symm)) hb); have n1_ := pxk BK447 hb; have n2_ := pxs HB hb; have n3_ := Aside0.mk (hbox); have n4_ := Aside0.mk ((by rw [hg]; exact (below_size (pxb HB)) : w.heap.size ≤ gb449)); have n5_ := Aside0.mk ((by rw [hg]; exact (below_size (pxb HB)) : w.heap.size ≤ gb449)); have n6_ := Aside0.mk ((by rw [hg]; exact Nat.ne_of_lt (blk_lt (g := gb447) (o := .cells #[.int .i64 a1_0, .int .i64 a1_1] 24 (0, 0)) (pxq BK447)) : gb447 ≠ gb449)); have n7_ := Aside0.mk ((by rw [hg]; exact Nat.ne_of_gt (blk_lt (g := gb447) (o := .cells #[.int .i64 a1_0, .int .i64 a1_1] 24 (0, 0)) (pxq BK447)) : gb449 ≠ gb447)); clear HO_5; clear BK447; clear HB; have HO_5 := n0_; have BK447 := n1_; have HB := n2_; have BK449 := n3_; have GW449 := n4_; have GE449 := n5_; have NB447_449 := n6_; have NB449_447 := n7_; clear n0_ n1_ n2_ n3_ n4_ n5_ n6_ n7_; clear hb hbox hg; have hnb45 := NB449_447.out; have hnc45 := NB447_449.out; have hcz46_0 : w44.cell? ⟨gb449, 0, none⟩ = some (.string (⟨#[]⟩ : ByteArray)) := (blk_cell BK449.out 0).trans rfl; have hcz46_1 : w44.cell? ⟨gb449, 1, none⟩ = some (.int .i64 0) := (blk_cell BK449.out 1).trans rfl; have hfz46_0 := blk_frozen BK449.out 0; have hfz46_1 := blk_frozen BK449.out 1))
       have n0_ : Aside0 (Kd.R k82 82 ((w44.setCell ⟨gb449, 0, none⟩ (.string ((rd_T82 l0 x14_1).f0))).setCell ⟨gb449, 1, none⟩ (.int .i64 ((rd_T82 l0 x14_1).f1))) w.heap.size (fun k_ => k_ ≠ gb449) u5 x5_1) := ⟨by (with_reducible repeat (first | apply Kd.R_alloc | apply Kd.R_drewN | apply Kd.R_drew)); exact Kd.R_mono (Kd.R_far (p := ⟨gb449, 1, none⟩) (Kd.R_far (p := ⟨gb449, 0, none⟩) (Kd.R_mono HO_5.out (fun k_ hk => (⟨hk, hk.2⟩ : _ ∧ k_ ≠ gb449))) (fun _ hk => hk.2) (.string ((rd_T82 l0 x14_1).f0))) (fun _ hk => hk.2) (.int .i64 ((rd_T82 l0 x14_1).f1))) (fun _ hk => hk.1.2)⟩
       have n1_ : Aside0 (((w44.setCell ⟨gb449, 0, none⟩ (.string ((rd_T82 l0 x14_1).f0))).setCell ⟨gb449, 1, none⟩ (.int .i64 ((rd_T82 l0 x14_1).f1))).heap[gb447]? = some (.cells #[.int .i64 a1_0, .int .i64 a1_1] 24 (0, 0))) := ⟨by (with_reducible repeat (first | refine blk_drewN ?_ _ | refine blk_drew ?_ | refine blk_alloc ?_ _)); refine blk_far ?_ NB447_449.out _; (with_reducible repeat (first | refine blk_drewN ?_ _ | refine blk_drew ?_ | refine blk_alloc ?_ _)); refine blk_far ?_ NB447_449.out _; (with_reducible repeat (first | refine blk_drewN ?_ _ | refine blk_drew ?_ | refine blk_alloc ?_ _)); exact BK447.out⟩
       have n2_ : Aside0 (((w44.setCell ⟨gb449, 0, none⟩ (.string ((rd_T82 l0 x14_1).f0))).setCell ⟨gb449, 1, none⟩ (.int .i64 ((rd_T82 l0 x14_1).f1))).heap[gb449]? = some (.cells #[.string ((rd_T82 l0 x14_1).f0), .int .i64 ((rd_T82 l0 x14_1).f1)] 82 (0, 0))) := ⟨by (with_reducible repeat (first | refine blk_drewN ?_ _ | refine blk_drew ?_ | refine blk_alloc ?_ _)); refine blk_put (cs := #[.string ((rd_T82 l0 x14_1).f0), .int .i64 0]) ?_ 1 _ rfl; (with_reducible repeat (first | refine blk_drewN ?_ _ | refine blk_drew ?_ | refine blk_alloc ?_ _)); refine blk_put (cs := #[.string (⟨#[]⟩ : ByteArray), .int .i64 0]) ?_ 0 _ rfl; (with_reducible repeat (first | refine blk_drewN ?_ _ | refine blk_drew ?_ | refine blk_alloc ?_ _)); exact BK449.out⟩
       have n3_ : Aside0 (Below w.heap.size w ((w44.setCell ⟨gb449, 0, none⟩ (.string ((rd_T82 l0 x14_1).f0))).setCell ⟨gb449, 1, none⟩ (.int .i64 ((rd_T82 l0 x14_1).f1)))) := ⟨pxb HB⟩
       (try clear HO_5)
       (try clear BK447)
       (try clear BK449)
       (try clear HB)
       generalize ((w44.setCell ⟨gb449, 0, none⟩ (.string ((rd_T82 l0 x14_1).f0))).setCell ⟨gb449, 1, none⟩ (.int .i64 ((rd_T82 l0 x14_1).f1))) = w47 at n0_ n1_ n2_ n3_ ⊢
       have HO_5 := n0_
       have BK447 := n1_
       have BK449 := n2_
       have HB := n3_
       clear n0_ n1_ n2_ n3_
       have n0_ := Aside0.mk (Kd.R_drew HO_5.out)
       have n1_ := Aside0.mk (blk_drew BK447.out)
       have n2_ := Aside0.mk (blk_drew BK449.out)
       have n3_ := Aside0.mk (below_drew1 HB.out)
       clear HO_5
       clear BK447
       clear BK449
       clear HB
       have HO_5 := n0_
       have BK447 := n1_
       have BK449 := n2_
       have HB := n3_
       clear n0_ n1_ n2_ n3_
       refine start_ (n := 15) (S := fun w' => w'.cell? ⟨gb447, 0, none⟩ = some (.int .i64 a1_0) ∧ w'.cell? ⟨gb447, 1, none⟩ = some (.int .i64 a1_1) ∧ w'.cell? ⟨gb449, 0, none⟩ = some (.string ((rd_T82 l0 x14_1).f0)) ∧ w'.cell? ⟨gb449, 1, none⟩ = some (.int .i64 ((rd_T82 l0 x14_1).f1))) (ds := []) #[false, false, false, false, false, false, false, false, false, false, false, false, false, false, false] (by kernel_rfl) rfl rfl ⟨(blk_cell BK447.out 0).trans rfl, (blk_cell BK447.out 1).trans rfl, (blk_cell BK449.out 0).trans rfl, (blk_cell BK449.out 1).trans rfl⟩ (fun hHeld => ?_); refine with_tabW edit_cut.tab6 edit_cut.bits6 (fun HT_ HW_ => ?_)
       generalize w47.drew = w48 at HO_5 BK447 BK449 HB hHeld ⊢
       refine pure_ (i := 0) (N := some 18) (v := ?_) (a' := ?_) #[true, false, false, false, false, false, false, false, false, false, false, false, false, false, false] rfl rfl (any_of HT_.out (by kernel_rfl)) (fun _ _ _ h => h) (Or.inl ⟨by rfl, ?_⟩) ?_ ?_
       rotate_left
       ·intro w'
        go_simp
        with_reducible rfl
       rotate_left
       ·simp only [Act.put, List.setIfInBounds_toArray, List.set_cons_zero, List.set_cons_succ, i64_w, i32_w]
        rfl
       refine pure_ (i := 2) (N := some 20) (v := ?_) (a' := ?_) #[true, false, true, false, false, false, false, false, false, false, false, false, false, false, false] rfl rfl (any_of HT_.out (by kernel_rfl)) (fun _ _ _ h => h) (Or.inl ⟨by rfl, ?_⟩) ?_ ?_
       rotate_left
       ·intro w'
        go_simp
        with_reducible rfl
       rotate_left
       ·simp only [Act.put, List.setIfInBounds_toArray, List.set_cons_zero, List.set_cons_succ, i64_w, i32_w]
        rfl
       refine pure_ (i := 5) (N := some 23) (v := ?_) (a' := ?_) #[true, false, true, false, false, true, false, false, false, false, false, false, false, false, false] rfl rfl (any_of HT_.out (by kernel_rfl)) (fun _ _ _ h => h) (Or.inl ⟨by rfl, ?_⟩) ?_ ?_
       rotate_left
       ·intro w'
        go_simp
        with_reducible rfl
       rotate_left
       ·simp only [Act.put, List.setIfInBounds_toArray, List.set_cons_zero, List.set_cons_succ, i64_w, i32_w]
        rfl
       refine pure_ (i := 7) (N := some 25) (v := ?_) (a' := ?_) #[true, false, true, false, false, true, false, true, false, false, false, false, false, false, false] rfl rfl (any_of HT_.out (by kernel_rfl)) (fun _ _ _ h => h) (Or.inl ⟨by rfl, ?_⟩) ?_ ?_
       rotate_left
       ·intro w'
        go_simp
        with_reducible rfl
       rotate_left
       ·simp only [Act.put, List.setIfInBounds_toArray, List.set_cons_zero, List.set_cons_succ, i64_w, i32_w]
        rfl
       refine pure_ (i := 9) (N := some 27) (v := ?_) (a' := ?_) #[true, false, true, false, false, true, false, true, false, true, false, false, false, false, false] rfl rfl (any_of HT_.out (by kernel_rfl)) (fun _ _ _ h => h) (Or.inl ⟨by rfl, ?_⟩) ?_ ?_
       rotate_left
       ·intro w'
        go_simp
        with_reducible rfl
       rotate_left
       ·simp only [Act.put, List.setIfInBounds_toArray, List.set_cons_zero, List.set_cons_succ, i64_w, i32_w]
        rfl
       refine take_ (i := 1) (N := some 19) (v := ?_) (a' := ?_) #[true, true, true, false, false, true, false, true, false, true, false, false, false, false, false] rfl rfl (take_ofW HT_.out HW_.out (by kernel_rfl)) (fun _ _ _ h => h) (Or.inl ⟨by rfl, ?_⟩) hHeld ?_ ?_
       rotate_left
       ·rintro w' ⟨s0, s1, s2, s3⟩
        go_simp
        with_reducible rfl
       rotate_left
       ·simp only [Act.put, List.setIfInBounds_toArray, List.set_cons_zero, List.set_cons_succ, i64_w, i32_w]
        rfl
       refine pure_ (i := 3) (N := some 21) (v := ?_) (a' := ?_) #[true, true, true, true, false, true, false, true, false, true, false, false, false, false, false] rfl rfl (any_of HT_.out (by kernel_rfl)) (fun _ _ _ h => h) (Or.inl ⟨by rfl, ?_⟩) ?_ ?_
       rotate_left
       ·intro w'
        go_simp
        with_reducible rfl
       rotate_left
       ·simp only [Act.put, List.setIfInBounds_toArray, List.set_cons_zero, List.set_cons_succ, i64_w, i32_w]
        rfl
       refine pure_ (i := 4) (N := some 22) (v := ?_) (a' := ?_) #[true, true, true, true, true, true, false, true, false, true, false, false, false, false, false] rfl rfl (any_of HT_.out (by kernel_rfl)) (fun _ _ _ h => h) (Or.inl ⟨by rfl, ?_⟩) ?_ ?_
       rotate_left
       ·intro w'
        go_simp
        with_reducible rfl
       rotate_left
       ·simp only [Act.put, List.setIfInBounds_toArray, List.set_cons_zero, List.set_cons_succ, i64_w, i32_w]
        rfl
       refine pure_ (i := 13) (N := some 9) (v := ?_) (a' := ?_) #[true, true, true, true, true, true, false, true, false, true, false, false, false, true, false] rfl rfl (any_of HT_.out (by kernel_rfl)) (fun _ _ _ h => h) (Or.inl ⟨by rfl, ?_⟩) ?_ ?_
       rotate_left
       ·intro w'
        go_simp
        with_reducible rfl
       rotate_left
       ·simp only [Act.put, List.setIfInBounds_toArray, List.set_cons_zero, List.set_cons_succ, i64_w, i32_w]
        rfl
       refine take_ (i := 6) (N := some 24) (v := ?_) (a' := ?_) #[true, true, true, true, true, true, true, true, false, true, false, false, false, true, false] rfl rfl (take_ofW HT_.out HW_.out (by kernel_rfl)) (fun _ _ _ h => h) (Or.inl ⟨by rfl, ?_⟩) hHeld ?_ ?_
       rotate_left
       ·rintro w' ⟨s0, s1, s2, s3⟩
        go_simp
        with_reducible rfl
       rotate_left
       ·simp only [Act.put, List.setIfInBounds_toArray, List.set_cons_zero, List.set_cons_succ, i64_w, i32_w]
        rfl
       refine pure_ (i := 8) (N := some 26) (v := ?_) (a' := ?_) #[true, true, true, true, true, true, true, true, true, true, false, false, false, true, false] rfl rfl (any_of HT_.out (by kernel_rfl)) (fun _ _ _ h => h) (Or.inl ⟨by rfl, ?_⟩) ?_ ?_
       rotate_left
       ·intro w'
        go_simp
        with_reducible rfl
       rotate_left
       ·simp only [Act.put, List.setIfInBounds_toArray, List.set_cons_zero, List.set_cons_succ, i64_w, i32_w]
        rfl
       refine take_ (i := 10) (N := some 28) (v := ?_) (a' := ?_) #[true, true, true, true, true, true, true, true, true, true, true, false, false, true, false] rfl rfl (take_ofW HT_.out HW_.out (by kernel_rfl)) (fun _ _ _ h => h) (Or.inl ⟨by rfl, ?_⟩) hHeld ?_ ?_
       rotate_left
       ·rintro w' ⟨s0, s1, s2, s3⟩
        go_simp
        with_reducible rfl
       rotate_left
       ·simp only [Act.put, List.setIfInBounds_toArray, List.set_cons_zero, List.set_cons_succ, i64_w, i32_w]
        rfl
       refine pure_ (i := 11) (N := some 29) (v := ?_) (a' := ?_) #[true, true, true, true, true, true, true, true, true, true, true, true, false, true, false] rfl rfl (any_of HT_.out (by kernel_rfl)) (fun _ _ _ h => h) (Or.inl ⟨by rfl, ?_⟩) ?_ ?_
       rotate_left
       ·intro w'
        go_simp
        with_reducible rfl
       rotate_left
       ·simp only [Act.put, List.setIfInBounds_toArray, List.set_cons_zero, List.set_cons_succ, i64_w, i32_w]
        rfl
       refine pure_ (i := 12) (N := some 30) (v := ?_) (a' := ?_) #[true, true, true, true, true, true, true, true, true, true, true, true, true, true, false] rfl rfl (any_of HT_.out (by kernel_rfl)) (fun _ _ _ h => h) (Or.inl ⟨by rfl, ?_⟩) ?_ ?_
       rotate_left
       ·intro w'
        go_simp
        with_reducible rfl
       rotate_left
       ·simp only [Act.put, List.setIfInBounds_toArray, List.set_cons_zero, List.set_cons_succ, i64_w, i32_w]
        rfl
       refine pure_ (i := 14) (N := some 10) (v := ?_) (a' := ?_) #[true, true, true, true, true, true, true, true, true, true, true, true, true, true, true] rfl rfl (any_of HT_.out (by kernel_rfl)) (fun _ _ _ h => h) (Or.inl ⟨by rfl, ?_⟩) ?_ ?_
       rotate_left
       ·intro w'
        go_simp
        with_reducible rfl
       rotate_left
       ·simp only [Act.put, List.setIfInBounds_toArray, List.set_cons_zero, List.set_cons_succ, i64_w, i32_w]
        rfl
       refine done_ (done_of HT_.out (by kernel_rfl)) ?_
       have hcz49_0 : w48.cell? ⟨gb449, 0, none⟩ = some (.string ((rd_T82 l0 x14_1).f0)) := (blk_cell BK449.out 0).trans rfl
       have hcz49_1 : w48.cell? ⟨gb449, 1, none⟩ = some (.int .i64 ((rd_T82 l0 x14_1).f1)) := (blk_cell BK449.out 1).trans rfl
       have hfz49_0 := blk_frozen BK449.out 0
       have hfz49_1 := blk_frozen BK449.out 1
       try go_wp2
       go_roundg k1
       case measure => have := HK1.out; omega
       case rel => exact ⟨(x5_1), (wrap64 (x6_1 + (((rd_T82 l0 x14_1).f0).size : Int))), (wrap64 (x14_1 + 1)), (by first | rfl | (simp; done) | (simp [*]; done)), (by first | rfl | (simp; done) | (simp [*]; done)), H', ⟨by have := HK1.out; omega⟩, ⟨by (with_reducible repeat (first | apply Kd.R_alloc | apply Kd.R_drewN | apply Kd.R_drew)); exact Kd.R_mono HO_5.out (fun _ hk => trivial)⟩, ⟨pxq BK447⟩, ⟨pxb HB⟩⟩
     ·rw [if_neg c6] at H
      exact absurd H (by simp)
    ·rw [if_neg c5] at H
     exact absurd H (by simp)
   ·rw [if_neg c4] at H
    have c4b0 : decide (x14_1 < (l0.length : Int)) = false := decide_eq_false c4
    clear c4
    obtain rfl := Option.some.inj H
    go_wp2
    go_ret
    exact ⟨_, by first | rfl | (simp [errW_none, errW_some] <;> rfl) | (simp [*, errW_none, errW_some] <;> rfl), pxr HO_5, pxb HB⟩

end Go.Proofs.Ytfnemjejfccecaa.X
