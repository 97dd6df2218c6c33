/- What the program's functions answer, as Lean functions, and that each call does just that; no condition. Written by a program (px.py) out of the translation. -/
import Derived.Test.YtefgfnhhoidbdaaX0
namespace Go.Proofs.Ytefgfnhhoidbdaa.X
open Go.RowKit Go.Proofs.YtefgfnhhoidbdaaW.PrintWords Go.Proofs.YtefgfnhhoidbdaaW.PrintLast Go.Proofs.YtefgfnhhoidbdaaW.PrintMore
attribute [local go_sem] max2_int min2_int max_two min_two max_three min_three max_four min_four   -- for this text's walks alone
set_option linter.unusedVariables false
set_option linter.unusedSimpArgs false

/-! ### caulkerref21_Solve: function 17 -/
mutual
def caulkerref21_Solve.l0 : Nat → List (S41) → List Int → List Bool → Bool → Option (List Bool)
 | 0, _, _, _, _ => none
 | k + 1, x1, x2, x7, x8 => if x8 = true then (caulkerref21_Solve.l1 k x1 x2 x7 false 0) else (some x7)
def caulkerref21_Solve.l1 : Nat → List (S41) → List Int → List Bool → Bool → Int → Option (List Bool)
 | 0, _, _, _, _, _ => none
 | k + 1, x1, x2, x7, x8, x9 => if x9 < (x1.length : Int) then (if 0 ≤ x9 then (if ((rd_T41 x1 x9).f0) = (-1) then (caulkerref21_Solve.j2 k x1 x2 x7 x8 x9 true ((rd_T41 x1 x9).f0) ((rd_T41 x1 x9).f1) ((rd_T41 x1 x9).f2) ((rd_T41 x1 x9).f3)) else (if 0 ≤ ((rd_T41 x1 x9).f0) then (if ((rd_T41 x1 x9).f0) < (x7.length : Int) then (caulkerref21_Solve.j2 k x1 x2 x7 x8 x9 (rdOf false x7 ((rd_T41 x1 x9).f0)) ((rd_T41 x1 x9).f0) ((rd_T41 x1 x9).f1) ((rd_T41 x1 x9).f2) ((rd_T41 x1 x9).f3)) else (none)) else (none))) else (none)) else (caulkerref21_Solve.l0 k x1 x2 x7 x8)
def caulkerref21_Solve.j2 : Nat → List (S41) → List Int → List Bool → Bool → Int → Bool → Int → Int → Int → Int → Option (List Bool)
 | 0, _, _, _, _, _, _, _, _, _, _ => none
 | k + 1, x1, x2, x7, x8, x9, x11, x119000, x119001, x119002, x119003 => caulkerref21_Solve.l2 k x1 x2 x7 x8 x9 x11 0 x119000 x119001 x119002 x119003
def caulkerref21_Solve.l2 : Nat → List (S41) → List Int → List Bool → Bool → Int → Bool → Int → Int → Int → Int → Int → Option (List Bool)
 | 0, _, _, _, _, _, _, _, _, _, _, _ => none
 | k + 1, x1, x2, x7, x8, x9, x11, x12, x119000, x119001, x119002, x119003 => if x12 < (x2.length : Int) then (if 0 ≤ x12 then (if (rd x2 x12) = x119001 then (caulkerref21_Solve.l2 k x1 x2 x7 x8 x9 false (wrap64 (x12 + 1)) x119000 x119001 x119002 x119003) else (caulkerref21_Solve.l2 k x1 x2 x7 x8 x9 x11 (wrap64 (x12 + 1)) x119000 x119001 x119002 x119003)) else (none)) else (if x11 = true then (if 0 ≤ x119001 then (if x119001 < (x7.length : Int) then (if rdOf false x7 x119001 = true then (caulkerref21_Solve.l1 k x1 x2 x7 x8 (wrap64 (x9 + 1))) else (caulkerref21_Solve.l1 k x1 x2 (x7.set (x119001 : Int).toNat true) true (wrap64 (x9 + 1)))) else (none)) else (none)) else (caulkerref21_Solve.l1 k x1 x2 x7 x8 (wrap64 (x9 + 1))))
end
def caulkerref21_Solve.f (k : Nat) (a0 : Int) (l1 : List (S41)) (l2 : List Int) : Option (List Bool) := if 0 ≤ a0 then (if (a0 : Int).toNat ≤ 281474976710656 then (caulkerref21_Solve.l0 k l1 l2 (List.replicate (a0 : Int).toNat false) true) else (none)) else (none)
theorem caulkerref21_Solve.mono_l : ∀ k, (∀ y0 y1 y2 y3, LeO (caulkerref21_Solve.l0 k y0 y1 y2 y3) (caulkerref21_Solve.l0 (k + 1) y0 y1 y2 y3)) ∧ (∀ y0 y1 y2 y3 y4, LeO (caulkerref21_Solve.l1 k y0 y1 y2 y3 y4) (caulkerref21_Solve.l1 (k + 1) y0 y1 y2 y3 y4)) ∧ (∀ y0 y1 y2 y3 y4 y5 y6 y7 y8 y9, LeO (caulkerref21_Solve.j2 k y0 y1 y2 y3 y4 y5 y6 y7 y8 y9) (caulkerref21_Solve.j2 (k + 1) y0 y1 y2 y3 y4 y5 y6 y7 y8 y9)) ∧ (∀ y0 y1 y2 y3 y4 y5 y6 y7 y8 y9 y10, LeO (caulkerref21_Solve.l2 k y0 y1 y2 y3 y4 y5 y6 y7 y8 y9 y10) (caulkerref21_Solve.l2 (k + 1) y0 y1 y2 y3 y4 y5 y6 y7 y8 y9 y10))
 | 0 => ⟨fun _ _ _ _ r h => by simp [caulkerref21_Solve.l0] at h, fun _ _ _ _ _ r h => by simp [caulkerref21_Solve.l1] at h, fun _ _ _ _ _ _ _ _ _ _ r h => by simp [caulkerref21_Solve.j2] at h, fun _ _ _ _ _ _ _ _ _ _ _ r h => by simp [caulkerref21_Solve.l2] at h⟩
 | k + 1 => by
  obtain ⟨ih0, ih1, ih2, ih3⟩ := caulkerref21_Solve.mono_l k
  refine ⟨?_, ?_, ?_, ?_⟩
  ·intro y0 y1 y2 y3
   unfold caulkerref21_Solve.l0
   repeat' first
   | (with_reducible exact ih0 _ _ _ _)
   | (with_reducible exact ih1 _ _ _ _ _)
   | (with_reducible exact ih2 _ _ _ _ _ _ _ _ _ _)
   | (with_reducible exact ih3 _ _ _ _ _ _ _ _ _ _ _)
   | (with_reducible exact LeO.refl _)
   | (with_reducible exact LeO.none _)
   | (with_reducible refine LeO.ite ?_ ?_)
   | (with_reducible refine LeO.bind ?_ (fun _ => ?_))
   | exact ih0 _ _ _ _
   | exact ih1 _ _ _ _ _
   | exact ih2 _ _ _ _ _ _ _ _ _ _
   | exact ih3 _ _ _ _ _ _ _ _ _ _ _
   | exact LeO.none _
   | refine LeO.ite ?_ ?_
   | refine LeO.bind ?_ (fun _ => ?_)
  ·intro y0 y1 y2 y3 y4
   unfold caulkerref21_Solve.l1
   repeat' first
   | (with_reducible exact ih0 _ _ _ _)
   | (with_reducible exact ih1 _ _ _ _ _)
   | (with_reducible exact ih2 _ _ _ _ _ _ _ _ _ _)
   | (with_reducible exact ih3 _ _ _ _ _ _ _ _ _ _ _)
   | (with_reducible exact LeO.refl _)
   | (with_reducible exact LeO.none _)
   | (with_reducible refine LeO.ite ?_ ?_)
   | (with_reducible refine LeO.bind ?_ (fun _ => ?_))
   | exact ih0 _ _ _ _
   | exact ih1 _ _ _ _ _
   | exact ih2 _ _ _ _ _ _ _ _ _ _
   | exact ih3 _ _ _ _ _ _ _ _ _ _ _
   | exact LeO.none _
   | refine LeO.ite ?_ ?_
   | refine LeO.bind ?_ (fun _ => ?_)
  ·intro y0 y1 y2 y3 y4 y5 y6 y7 y8 y9
   unfold caulkerref21_Solve.j2
   repeat' first
   | (with_reducible exact ih0 _ _ _ _)
   | (with_reducible exact ih1 _ _ _ _ _)
   | (with_reducible exact ih2 _ _ _ _ _ _ _ _ _ _)
   | (with_reducible exact ih3 _ _ _ _ _ _ _ _ _ _ _)
   | (with_reducible exact LeO.refl _)
   | (with_reducible exact LeO.none _)
   | (with_reducible refine LeO.ite ?_ ?_)
   | (with_reducible refine LeO.bind ?_ (fun _ => ?_))
   | exact ih0 _ _ _ _
   | exact ih1 _ _ _ _ _
   | exact ih2 _ _ _ _ _ _ _ _ _ _
   | exact ih3 _ _ _ _ _ _ _ _ _ _ _
   | exact LeO.none _
   | refine LeO.ite ?_ ?_
   | refine LeO.bind ?_ (fun _ => ?_)
  ·intro y0 y1 y2 y3 y4 y5 y6 y7 y8 y9 y10
   unfold caulkerref21_Solve.l2
   repeat' first
   | (with_reducible exact ih0 _ _ _ _)
   | (with_reducible exact ih1 _ _ _ _ _)
   | (with_reducible exact ih2 _ _ _ _ _ _ _ _ _ _)
   | (with_reducible exact ih3 _ _ _ _ _ _ _ _ _ _ _)
   | (with_reducible exact LeO.refl _)
   | (with_reducible exact LeO.none _)
   | (with_reducible refine LeO.ite ?_ ?_)
   | (with_reducible refine LeO.bind ?_ (fun _ => ?_))
   | exact ih0 _ _ _ _
   | exact ih1 _ _ _ _ _
   | exact ih2 _ _ _ _ _ _ _ _ _ _
   | exact ih3 _ _ _ _ _ _ _ _ _ _ _
   | exact LeO.none _
   | refine LeO.ite ?_ ?_
   | refine LeO.bind ?_ (fun _ => ?_)
theorem caulkerref21_Solve.mono : ∀ a0 a1 a2 k, LeO (caulkerref21_Solve.f k a0 a1 a2) (caulkerref21_Solve.f (k + 1) a0 a1 a2) := by
 intro a0 a1 a2 k
 obtain ⟨ih0, ih1, ih2, ih3⟩ := caulkerref21_Solve.mono_l k
 unfold caulkerref21_Solve.f
 repeat' first
   | (with_reducible exact ih0 _ _ _ _)
   | (with_reducible exact ih1 _ _ _ _ _)
   | (with_reducible exact ih2 _ _ _ _ _ _ _ _ _ _)
   | (with_reducible exact ih3 _ _ _ _ _ _ _ _ _ _ _)
   | (with_reducible exact LeO.refl _)
   | (with_reducible exact LeO.none _)
   | (with_reducible refine LeO.ite ?_ ?_)
   | (with_reducible refine LeO.bind ?_ (fun _ => ?_))
   | exact ih0 _ _ _ _
   | exact ih1 _ _ _ _ _
   | exact ih2 _ _ _ _ _ _ _ _ _ _
   | exact ih3 _ _ _ _ _ _ _ _ _ _ _
   | exact LeO.none _
   | refine LeO.ite ?_ ?_
   | refine LeO.bind ?_ (fun _ => ?_)
set_option maxHeartbeats 8000000 in
set_option maxRecDepth 100000 in
theorem caulkerref21_Solve.calls (k : Nat) (a0 : Int) (A1 : Option Addr) (c1 : Nat) (l1 : List (S41)) (A2 : Option Addr) (c2 : Nat) (l2 : List Int) (r : List Bool) (w : World) (hr1 : Kd.C k41 w A1 l1.length l1) (hc1 : l1.length ≤ c1) (hr2 : Kd.C (Kd.int .i64) w A2 l2.length l2) (hc2 : l2.length ≤ c2) (h : caulkerref21_Solve.f k a0 l1 l2 = some r) :
  Calls Try.prog 17 #[.int .i64 a0, .slice A1 l1.length c1, .slice A2 l2.length c2] w fun e w' => ∃ v0_ : Value, e = .returned (v0_) ∧ Kd.R Kd.bool 4 w' w.heap.size (fun _ => True) v0_ r ∧ Below w.heap.size w w' := by
 have hu41 := Try.underlying41
 have HR1 := Aside0.mk hr1
 have HC1 := Aside0.mk hc1
 clear hr1 hc1
 have HR2 := Aside0.mk hr2
 have HC2 := Aside0.mk hc2
 clear hr2 hc2
 have HB := Aside0.mk (Below.refl w.heap.size w)
 have H : (if 0 ≤ a0 then (if (a0 : Int).toNat ≤ 281474976710656 then (caulkerref21_Solve.l0 k l1 l2 (List.replicate (a0 : Int).toNat false) true) else (none)) else (none)) = some r := h
 clear h
 by_cases c4 : 0 ≤ a0
 ·rw [if_pos c4] at H
  have c4b0 := eq_true c4
  have c4b1 : decide (0 ≤ a0) = true := decide_eq_true c4
  clear c4
  by_cases c5 : (a0 : Int).toNat ≤ 281474976710656
  ·rw [if_pos c5] at H
   have c5b0 := eq_true c5
   have c5b1 : decide ((a0 : Int).toNat ≤ 281474976710656) = true := decide_eq_true c5
   clear c5
   obtain ⟨y114, hy114⟩ : ∃ y_ : List Bool, y_ = (List.replicate (a0 : Int).toNat false) := ⟨_, rfl⟩
   replace H : (caulkerref21_Solve.l0 k l1 l2 y114 true) = some r := by first | (rw [hy114]; with_reducible exact H) | (have H2_ := (Option.bind_some _ _).symm.trans H; rw [hy114]; with_reducible exact H2_) | (have H2_ := (Option.bind_some _ _).symm.trans H; with_reducible exact H2_) | with_reducible exact H | (rw [hy114]; exact H) | exact H
   have Ny114 := Aside0.mk hy114
   clear hy114
   have H' := Aside0.mk H
   clear H
   go_enter Try.func17, Try.ntmps17
   go_wp2_with (first | ((with_reducible refine gate_dst (N := 14) rfl ?_); refine Kd.R_make Kd.bool _ 4 rfl (N := 14) rfl 34 _ _ rfl a0 rfl rfl Try.underlying34 (.bool false) 1 info4 rfl (by decide) (by omega) false (ok := fun _ => True) (okp := fun _ => True) rfl (fun _ hk => hk) trivial (of_decide_eq_true (by first | (with_reducible assumption) | assumption)) (Nat.le_trans (Nat.mul_le_mul_right _ (of_decide_eq_true (by first | (with_reducible assumption) | assumption) : a0.toNat ≤ 281474976710656)) (by omega)) (Below.refl _ _) (Nat.le_refl _) ?_; intro v115 w6 ho7 hb hg_ hnew_; clear hg_ hnew_; (first | rw [← Ny114.out] at ho7 | (simp only [Int.reduceToNat] at ho7; rw [← Ny114.out] at ho7)); have n0_ := Aside0.mk (Kd.R_lower ho7 (below_size (pxb HB))); have n1_ := pxs HB hb; clear HB; have HO116 := n0_; have HB := n1_; clear n0_ n1_; clear hb ho7))
   repeat (go_quiet (first | ((with_reducible refine gate_dst (N := 14) rfl ?_); refine Kd.R_make Kd.bool _ 4 rfl (N := 14) rfl 34 _ _ rfl a0 rfl rfl Try.underlying34 (.bool false) 1 info4 rfl (by decide) (by omega) false (ok := fun _ => True) (okp := fun _ => True) rfl (fun _ hk => hk) trivial (of_decide_eq_true (by first | (with_reducible assumption) | assumption)) (Nat.le_trans (Nat.mul_le_mul_right _ (of_decide_eq_true (by first | (with_reducible assumption) | assumption) : a0.toNat ≤ 281474976710656)) (by omega)) (Below.refl _ _) (Nat.le_refl _) ?_; intro v115 w6 ho7 hb hg_ hnew_; clear hg_ hnew_; (first | rw [← Ny114.out] at ho7 | (simp only [Int.reduceToNat] at ho7; rw [← Ny114.out] at ho7)); have n0_ := Aside0.mk (Kd.R_lower ho7 (below_size (pxb HB))); have n1_ := pxs HB hb; clear HB; have HO116 := n0_; have HB := n1_; clear n0_ n1_; clear hb ho7)); try go_wp2_with (first | ((with_reducible refine gate_dst (N := 14) rfl ?_); refine Kd.R_make Kd.bool _ 4 rfl (N := 14) rfl 34 _ _ rfl a0 rfl rfl Try.underlying34 (.bool false) 1 info4 rfl (by decide) (by omega) false (ok := fun _ => True) (okp := fun _ => True) rfl (fun _ hk => hk) trivial (of_decide_eq_true (by first | (with_reducible assumption) | assumption)) (Nat.le_trans (Nat.mul_le_mul_right _ (of_decide_eq_true (by first | (with_reducible assumption) | assumption) : a0.toNat ≤ 281474976710656)) (by omega)) (Below.refl _ _) (Nat.le_refl _) ?_; intro v115 w6 ho7 hb hg_ hnew_; clear hg_ hnew_; (first | rw [← Ny114.out] at ho7 | (simp only [Int.reduceToNat] at ho7; rw [← Ny114.out] at ho7)); have n0_ := Aside0.mk (Kd.R_lower ho7 (below_size (pxb HB))); have n1_ := pxs HB hb; clear HB; have HO116 := n0_; have HB := n1_; clear n0_ n1_; clear hb ho7)))
   go_loopg [8] k (fun kq v8 w' => ∃ (x7_1 : List Bool) (x8_1 : Bool), v8 = .bool x8_1 ∧ Aside0 (caulkerref21_Solve.l0 kq l1 l2 x7_1 x8_1 = some r) ∧ Aside0 (kq ≤ k) ∧ Aside0 (Kd.R Kd.bool 4 w' w.heap.size (fun _ => True) v115 x7_1) ∧ Aside0 (Below w.heap.size w w'))
   case atStart => exact ⟨(y114), (true), (by first | rfl | (simp; done) | (simp [*]; done)), H', ⟨Nat.le_refl _⟩, ⟨pxr HO116⟩, ⟨pxb HB⟩⟩
   case round =>
    clear H'
    try clear c1
    try clear c2
    try clear p2
    try clear c4
    try clear c4b0
    try clear c4b1
    try clear c5
    try clear c5b0
    try clear c5b1
    obtain ⟨x7_1, x8_1, rfl, HA, HK1, HO_7, HB⟩ := hrel
    cases gk with
    | zero => exact absurd HA.out (by simp [caulkerref21_Solve.l0])
    | succ k1 =>
     have H := HA.out
     clear HA
     simp only [caulkerref21_Solve.l0] at H
     by_cases c8 : x8_1 = true
     ·subst c8
      have H1 : (caulkerref21_Solve.l1 k1 l1 l2 x7_1 false 0) = some r := by rw [if_pos rfl] at H; exact H
      clear H
      have H := H1
      clear H1
      have H' := Aside0.mk H
      clear H
      go_wp2
      repeat (go_quiet (fail); try go_wp2)
      go_loopg [8, 9] k1 (fun kq v8 v9 w' => ∃ (x7_2 : List Bool) (x8_2 : Bool) (x9_2 : Int), v8 = .bool x8_2 ∧ v9 = .int .i64 x9_2 ∧ Aside0 (caulkerref21_Solve.l1 kq l1 l2 x7_2 x8_2 x9_2 = some r) ∧ Aside0 (kq ≤ k1) ∧ Aside0 (Kd.R Kd.bool 4 w' w.heap.size (fun _ => True) v115 x7_2) ∧ Aside0 (Below w.heap.size w w'))
      case atStart => exact ⟨(x7_1), (false), (0), (by first | rfl | (simp; done) | (simp [*]; done)), (by first | rfl | (simp; done) | (simp [*]; done)), H', ⟨Nat.le_refl _⟩, ⟨pxr HO_7⟩, ⟨pxb HB⟩⟩
      case round =>
       clear H'
       try clear c1
       try clear c2
       try clear p2
       try clear c4
       try clear c4b0
       try clear c4b1
       try clear c5
       try clear c5b0
       try clear c5b1
       try clear c8
       try clear p2
       obtain ⟨x7_2, x8_2, x9_2, rfl, rfl, HA, HK2, HO_7, HB⟩ := hrel
       cases gk with
       | zero => exact absurd HA.out (by simp [caulkerref21_Solve.l1])
       | succ k2 =>
        have H := HA.out
        clear HA
        simp only [caulkerref21_Solve.l1] at H
        by_cases c9 : x9_2 < (l1.length : Int)
        ·rw [if_pos c9] at H
         have c9b0 : decide (x9_2 < (l1.length : Int)) = true := decide_eq_true c9
         clear c9
         by_cases c10 : 0 ≤ x9_2
         ·rw [if_pos c10] at H
          have c10b0 : decide (0 ≤ x9_2) = true := decide_eq_true c10
          clear c10
          have HC11 := Aside0.mk H
          clear H
          have p117 : 0 ≤ (x9_2 : Int) := of_decide_eq_true (by first | (with_reducible assumption) | assumption)
          have q117 : x9_2 < (l1.length : Int) := of_decide_eq_true (by first | (with_reducible assumption) | assumption)
          obtain ⟨ad117, e117, hx117_0, hx117_1, hx117_2, hx117_3⟩ := at_T41 HR1.out x9_2 p117 q117
          cases e117
          replace hx117_0 := (HB.out.cell (World.block_lt_of_cell? w _ hx117_0)).trans hx117_0
          replace hx117_1 := (HB.out.cell (World.block_lt_of_cell? w _ hx117_1)).trans hx117_1
          replace hx117_2 := (HB.out.cell (World.block_lt_of_cell? w _ hx117_2)).trans hx117_2
          replace hx117_3 := (HB.out.cell (World.block_lt_of_cell? w _ hx117_3)).trans hx117_3
          replace p117 := eq_true p117
          replace q117 := eq_true q117
          go_upto_region 9 with (first | ((with_reducible refine gate_dst (N := 10) rfl ?_); refine box_event ?hg (N := 10) ?hd (cs := #[.int .i64 0, .int .i64 0, .int .i64 0, .int .i64 0]) (t := 41) ?hr ?_; (case hd => rfl); (case hg => rfl); (case hr => first | (go_simp; done) | (go_simp; rfl)); intro gb118 hg w12 hbox hb; have n0_ := Aside0.mk (Kd.R_below (pxr HO_7) hb); have n1_ := pxs HB hb; have n2_ := Aside0.mk (hbox); have n3_ := Aside0.mk ((by rw [hg]; exact (below_size (pxb HB)) : w.heap.size ≤ gb118)); have n4_ := Aside0.mk ((by rw [hg]; exact (below_size (pxb HB)) : w.heap.size ≤ gb118)); clear HO_7; clear HB; have HO_7 := n0_; have HB := n1_; have BK118 := n2_; have GW118 := n3_; have GE118 := n4_; clear n0_ n1_ n2_ n3_ n4_; clear hb hbox hg; have hcz13_0 : w12.cell? ⟨gb118, 0, none⟩ = some (.int .i64 0) := (blk_cell BK118.out 0).trans rfl; have hcz13_1 : w12.cell? ⟨gb118, 1, none⟩ = some (.int .i64 0) := (blk_cell BK118.out 1).trans rfl; have hcz13_2 : w12.cell? ⟨gb118, 2, none⟩ = some (.int .i64 0) := (blk_cell BK118.out 2).trans rfl; have hcz13_3 : w12.cell? ⟨gb118, 3, none⟩ = some (.int .i64 0) := (blk_cell BK118.out 3).trans rfl; have hfz13_0 := blk_frozen BK118.out 0; have hfz13_1 := blk_frozen BK118.out 1; have hfz13_2 := blk_frozen BK118.out 2; have hfz13_3 := blk_frozen BK118.out 3))
          repeat (go_quiet (first | ((with_reducible refine gate_dst (N := 10) rfl ?_); refine box_event ?hg (N := 10) ?hd (cs := #[.int .i64 0, .int .i64 0, .int .i64 0, .int .i64 0]) (t := 41) ?hr ?_; (case hd => rfl); (case hg => rfl); (case hr => first | (go_simp; done) | (go_simp; rfl)); intro gb118 hg w12 hbox hb; have n0_ := Aside0.mk (Kd.R_below (pxr HO_7) hb); have n1_ := pxs HB hb; have n2_ := Aside0.mk (hbox); have n3_ := Aside0.mk ((by rw [hg]; exact (below_size (pxb HB)) : w.heap.size ≤ gb118)); have n4_ := Aside0.mk ((by rw [hg]; exact (below_size (pxb HB)) : w.heap.size ≤ gb118)); clear HO_7; clear HB; have HO_7 := n0_; have HB := n1_; have BK118 := n2_; have GW118 := n3_; have GE118 := n4_; clear n0_ n1_ n2_ n3_ n4_; clear hb hbox hg; have hcz13_0 : w12.cell? ⟨gb118, 0, none⟩ = some (.int .i64 0) := (blk_cell BK118.out 0).trans rfl; have hcz13_1 : w12.cell? ⟨gb118, 1, none⟩ = some (.int .i64 0) := (blk_cell BK118.out 1).trans rfl; have hcz13_2 : w12.cell? ⟨gb118, 2, none⟩ = some (.int .i64 0) := (blk_cell BK118.out 2).trans rfl; have hcz13_3 : w12.cell? ⟨gb118, 3, none⟩ = some (.int .i64 0) := (blk_cell BK118.out 3).trans rfl; have hfz13_0 := blk_frozen BK118.out 0; have hfz13_1 := blk_frozen BK118.out 1; have hfz13_2 := blk_frozen BK118.out 2; have hfz13_3 := blk_frozen BK118.out 3)); go_upto_region 9 with (first | ((with_reducible refine gate_dst (N := 10) rfl ?_); refine box_event ?hg (N := 10) ?hd (cs := #[.int .i64 0, .int .i64 0, .int .i64 0, .int .i64 0]) (t := 41) ?hr ?_; (case hd => rfl); (case hg => rfl); (case hr => first | (go_simp; done) | (go_simp; rfl)); intro gb118 hg w12 hbox hb; have n0_ := Aside0.mk (Kd.R_below (pxr HO_7) hb); have n1_ := pxs HB hb; have n2_ := Aside0.mk (hbox); have n3_ := Aside0.mk ((by rw [hg]; exact (below_size (pxb HB)) : w.heap.size ≤ gb118)); have n4_ := Aside0.mk ((by rw [hg]; exact (below_size (pxb HB)) : w.heap.size ≤ gb118)); clear HO_7; clear HB; have HO_7 := n0_; have HB := n1_; have BK118 := n2_; have GW118 := n3_; have GE118 := n4_; clear n0_ n1_ n2_ n3_ n4_; clear hb hbox hg; have hcz13_0 : w12.cell? ⟨gb118, 0, none⟩ = some (.int .i64 0) := (blk_cell BK118.out 0).trans rfl; have hcz13_1 : w12.cell? ⟨gb118, 1, none⟩ = some (.int .i64 0) := (blk_cell BK118.out 1).trans rfl; have hcz13_2 : w12.cell? ⟨gb118, 2, none⟩ = some (.int .i64 0) := (blk_cell BK118.out 2).trans rfl; have hcz13_3 : w12.cell? ⟨gb118, 3, none⟩ = some (.int .i64 0) := (blk_cell BK118.out 3).trans rfl; have hfz13_0 := blk_frozen BK118.out 0; have hfz13_1 := blk_frozen BK118.out 1; have hfz13_2 := blk_frozen BK118.out 2; have hfz13_3 := blk_frozen BK118.out 3)))
          (try simp only [Act.put, List.setIfInBounds_toArray, List.set_cons_zero, List.set_cons_succ])
          go_cut [11] (fun v11 wc => ∃ (kq : Nat) (x11_10 : Bool), v11 = .bool x11_10 ∧ Aside0 (caulkerref21_Solve.j2 kq l1 l2 x7_2 x8_2 x9_2 x11_10 ((rd_T41 l1 x9_2).f0) ((rd_T41 l1 x9_2).f1) ((rd_T41 l1 x9_2).f2) ((rd_T41 l1 x9_2).f3) = some r) ∧ Aside0 (kq ≤ k2) ∧ Aside0 (Kd.R Kd.bool 4 wc w.heap.size (fun _ => True) v115 x7_2) ∧ Aside0 (wc.heap[gb118]? = some (.cells #[.int .i64 ((rd_T41 l1 x9_2).f0), .int .i64 ((rd_T41 l1 x9_2).f1), .int .i64 ((rd_T41 l1 x9_2).f2), .int .i64 ((rd_T41 l1 x9_2).f3)] 41 (0, 0))) ∧ Aside0 (Below w.heap.size w wc))
          case first =>
           have H := HC11.out
           clear HC11
           by_cases c14 : ((rd_T41 l1 x9_2).f0) = (-1)
           ·rw [if_pos c14] at H
            have c14b0 : (((rd_T41 l1 x9_2).f0) == (-1)) = true := beq_iff_eq.mpr c14
            have c14b1 : (((rd_T41 l1 x9_2).f0) != (-1)) = false := bne_eq_false_iff_eq.mpr c14
            clear c14
            (first | rw [c14b0] | (simp only [i64_w, i32_w]; rw [c14b0]) | skip)
            have H' := Aside0.mk H
            clear H
            have hcz15_0 : w12.cell? ⟨gb118, 0, none⟩ = some (.int .i64 0) := (blk_cell BK118.out 0).trans rfl
            have hcz15_1 : w12.cell? ⟨gb118, 1, none⟩ = some (.int .i64 0) := (blk_cell BK118.out 1).trans rfl
            have hcz15_2 : w12.cell? ⟨gb118, 2, none⟩ = some (.int .i64 0) := (blk_cell BK118.out 2).trans rfl
            have hcz15_3 : w12.cell? ⟨gb118, 3, none⟩ = some (.int .i64 0) := (blk_cell BK118.out 3).trans rfl
            have hfz15_0 := blk_frozen BK118.out 0
            have hfz15_1 := blk_frozen BK118.out 1
            have hfz15_2 := blk_frozen BK118.out 2
            have hfz15_3 := blk_frozen BK118.out 3
            go_wp2
            repeat (go_quiet (fail); try go_wp2)
            go_meet
            case rel => exact ⟨_, (true), (by first | rfl | (simp; done) | (simp [*]; done)), H', ⟨by have := HK1.out; have := HK2.out; first | omega | exact Nat.le_refl _⟩, ⟨by (with_reducible repeat (first | apply Kd.R_alloc | apply Kd.R_drewN | apply Kd.R_drew)); exact Kd.R_mono (Kd.R_far (p := ⟨gb118, 3, none⟩) (Kd.R_far (p := ⟨gb118, 2, none⟩) (Kd.R_far (p := ⟨gb118, 1, none⟩) (Kd.R_far (p := ⟨gb118, 0, none⟩) (Kd.R_types HO_7.out BK118.out (by decide)) (fun _ hk => hk.2) (.int .i64 ((rd_T41 l1 x9_2).f0))) (fun _ hk => hk.2) (.int .i64 ((rd_T41 l1 x9_2).f1))) (fun _ hk => hk.2) (.int .i64 ((rd_T41 l1 x9_2).f2))) (fun _ hk => hk.2) (.int .i64 ((rd_T41 l1 x9_2).f3))) (fun _ hk => trivial)⟩, ⟨by (with_reducible repeat (first | refine blk_drewN ?_ _ | refine blk_drew ?_ | refine blk_alloc ?_ _)); refine blk_put (cs := #[.int .i64 ((rd_T41 l1 x9_2).f0), .int .i64 ((rd_T41 l1 x9_2).f1), .int .i64 ((rd_T41 l1 x9_2).f2), .int .i64 0]) ?_ 3 _ rfl; (with_reducible repeat (first | refine blk_drewN ?_ _ | refine blk_drew ?_ | refine blk_alloc ?_ _)); refine blk_put (cs := #[.int .i64 ((rd_T41 l1 x9_2).f0), .int .i64 ((rd_T41 l1 x9_2).f1), .int .i64 0, .int .i64 0]) ?_ 2 _ rfl; (with_reducible repeat (first | refine blk_drewN ?_ _ | refine blk_drew ?_ | refine blk_alloc ?_ _)); refine blk_put (cs := #[.int .i64 ((rd_T41 l1 x9_2).f0), .int .i64 0, .int .i64 0, .int .i64 0]) ?_ 1 _ rfl; (with_reducible repeat (first | refine blk_drewN ?_ _ | refine blk_drew ?_ | refine blk_alloc ?_ _)); refine blk_put (cs := #[.int .i64 0, .int .i64 0, .int .i64 0, .int .i64 0]) ?_ 0 _ rfl; (with_reducible repeat (first | refine blk_drewN ?_ _ | refine blk_drew ?_ | refine blk_alloc ?_ _)); exact BK118.out⟩, ⟨pxb HB⟩⟩
           ·rw [if_neg c14] at H
            have c14b0 : (((rd_T41 l1 x9_2).f0) == (-1)) = false := beq_eq_false_iff_ne.mpr c14
            have c14b1 : (((rd_T41 l1 x9_2).f0) != (-1)) = true := bne_iff_ne.mpr c14
            (first | rw [c14b0] | (simp only [i64_w, i32_w]; rw [c14b0]) | skip)
            by_cases c16 : 0 ≤ ((rd_T41 l1 x9_2).f0)
            ·rw [if_pos c16] at H
             have c16b0 : decide (0 ≤ ((rd_T41 l1 x9_2).f0)) = true := decide_eq_true c16
             clear c16
             by_cases c17 : ((rd_T41 l1 x9_2).f0) < (x7_2.length : Int)
             ·rw [if_pos c17] at H
              have c17b0 : decide (((rd_T41 l1 x9_2).f0) < (x7_2.length : Int)) = true := decide_eq_true c17
              clear c17
              have H' := Aside0.mk H
              clear H
              have hcz18_0 : w12.cell? ⟨gb118, 0, none⟩ = some (.int .i64 0) := (blk_cell BK118.out 0).trans rfl
              have hcz18_1 : w12.cell? ⟨gb118, 1, none⟩ = some (.int .i64 0) := (blk_cell BK118.out 1).trans rfl
              have hcz18_2 : w12.cell? ⟨gb118, 2, none⟩ = some (.int .i64 0) := (blk_cell BK118.out 2).trans rfl
              have hcz18_3 : w12.cell? ⟨gb118, 3, none⟩ = some (.int .i64 0) := (blk_cell BK118.out 3).trans rfl
              have hfz18_0 := blk_frozen BK118.out 0
              have hfz18_1 := blk_frozen BK118.out 1
              have hfz18_2 := blk_frozen BK118.out 2
              have hfz18_3 := blk_frozen BK118.out 3
              obtain ⟨Ao19, co19, eo19⟩ := Kd.R_slice HO_7.out
              subst eo19
              have p119 : 0 ≤ (((rd_T41 l1 x9_2).f0) : Int) := of_decide_eq_true (by first | (with_reducible assumption) | assumption)
              have q119 : ((rd_T41 l1 x9_2).f0) < (x7_2.length : Int) := of_decide_eq_true (by first | (with_reducible assumption) | assumption)
              obtain ⟨ad119, e119, hx119_0⟩ := Kd.at_bool (Kd.R_reads' HO_7.out).2.2 ((rd_T41 l1 x9_2).f0) p119 q119
              cases e119
              have hn119_0 : ad119.block ≠ gb118 := Kd.own_blk (by first | exact Kd.R_ne HO_7.out BK118.out (by decide) | exact pxne HO_7)
              have hn119_1 : ad119.block ≠ gb118 := Kd.own_blk (by first | exact Kd.R_ne HO_7.out BK118.out (by decide) | exact pxne HO_7)
              have hn119_2 : ad119.block ≠ gb118 := Kd.own_blk (by first | exact Kd.R_ne HO_7.out BK118.out (by decide) | exact pxne HO_7)
              have hn119_3 : ad119.block ≠ gb118 := Kd.own_blk (by first | exact Kd.R_ne HO_7.out BK118.out (by decide) | exact pxne HO_7)
              replace hx119_0 := (cell_far (p := ⟨gb118, 0, none⟩) (by first | (rw [add_block]; exact hn119_0) | (show (Addr.add _ _).block ≠ _; rw [add_block]; exact hn119_0) | exact hn119_0) (.int .i64 ((rd_T41 l1 x9_2).f0))).trans hx119_0
              replace hx119_0 := (cell_far (p := ⟨gb118, 1, none⟩) (by first | (rw [add_block]; exact hn119_1) | (show (Addr.add _ _).block ≠ _; rw [add_block]; exact hn119_1) | exact hn119_1) (.int .i64 ((rd_T41 l1 x9_2).f1))).trans hx119_0
              replace hx119_0 := (cell_far (p := ⟨gb118, 2, none⟩) (by first | (rw [add_block]; exact hn119_2) | (show (Addr.add _ _).block ≠ _; rw [add_block]; exact hn119_2) | exact hn119_2) (.int .i64 ((rd_T41 l1 x9_2).f2))).trans hx119_0
              replace hx119_0 := (cell_far (p := ⟨gb118, 3, none⟩) (by first | (rw [add_block]; exact hn119_3) | (show (Addr.add _ _).block ≠ _; rw [add_block]; exact hn119_3) | exact hn119_3) (.int .i64 ((rd_T41 l1 x9_2).f3))).trans hx119_0
              (try have hy119_0 := fun (n_ : Nat) => (show ((((((w12.drewN n_).setCell ⟨gb118, 0, none⟩ (.int .i64 ((rd_T41 l1 x9_2).f0))).setCell ⟨gb118, 1, none⟩ (.int .i64 ((rd_T41 l1 x9_2).f1))).setCell ⟨gb118, 2, none⟩ (.int .i64 ((rd_T41 l1 x9_2).f2))).setCell ⟨gb118, 3, none⟩ (.int .i64 ((rd_T41 l1 x9_2).f3)))).cell? _ = some _ from hx119_0))
              clear hn119_0
              clear hn119_1
              clear hn119_2
              clear hn119_3
              replace p119 := eq_true p119
              replace q119 := eq_true q119
              go_wp2
              repeat (go_quiet (fail); try go_wp2)
              go_meet
              case rel => exact ⟨_, (rdOf false x7_2 ((rd_T41 l1 x9_2).f0)), (by first | rfl | (simp; done) | (simp [*]; done)), H', ⟨by have := HK1.out; have := HK2.out; first | omega | exact Nat.le_refl _⟩, ⟨by (with_reducible repeat (first | apply Kd.R_alloc | apply Kd.R_drewN | apply Kd.R_drew)); exact Kd.R_mono (Kd.R_far (p := ⟨gb118, 3, none⟩) (Kd.R_far (p := ⟨gb118, 2, none⟩) (Kd.R_far (p := ⟨gb118, 1, none⟩) (Kd.R_far (p := ⟨gb118, 0, none⟩) (Kd.R_types HO_7.out BK118.out (by decide)) (fun _ hk => hk.2) (.int .i64 ((rd_T41 l1 x9_2).f0))) (fun _ hk => hk.2) (.int .i64 ((rd_T41 l1 x9_2).f1))) (fun _ hk => hk.2) (.int .i64 ((rd_T41 l1 x9_2).f2))) (fun _ hk => hk.2) (.int .i64 ((rd_T41 l1 x9_2).f3))) (fun _ hk => trivial)⟩, ⟨by (with_reducible repeat (first | refine blk_drewN ?_ _ | refine blk_drew ?_ | refine blk_alloc ?_ _)); refine blk_put (cs := #[.int .i64 ((rd_T41 l1 x9_2).f0), .int .i64 ((rd_T41 l1 x9_2).f1), .int .i64 ((rd_T41 l1 x9_2).f2), .int .i64 0]) ?_ 3 _ rfl; (with_reducible repeat (first | refine blk_drewN ?_ _ | refine blk_drew ?_ | refine blk_alloc ?_ _)); refine blk_put (cs := #[.int .i64 ((rd_T41 l1 x9_2).f0), .int .i64 ((rd_T41 l1 x9_2).f1), .int .i64 0, .int .i64 0]) ?_ 2 _ rfl; (with_reducible repeat (first | refine blk_drewN ?_ _ | refine blk_drew ?_ | refine blk_alloc ?_ _)); refine blk_put (cs := #[.int .i64 ((rd_T41 l1 x9_2).f0), .int .i64 0, .int .i64 0, .int .i64 0]) ?_ 1 _ rfl; (with_reducible repeat (first | refine blk_drewN ?_ _ | refine blk_drew ?_ | refine blk_alloc ?_ _)); refine blk_put (cs := #[.int .i64 0, .int .i64 0, .int .i64 0, .int .i64 0]) ?_ 0 _ rfl; (with_reducible repeat (first | refine blk_drewN ?_ _ | refine blk_drew ?_ | refine blk_alloc ?_ _)); exact BK118.out⟩, ⟨pxb HB⟩⟩
             ·rw [if_neg c17] at H
              exact absurd H (by simp)
            ·rw [if_neg c16] at H
             exact absurd H (by simp)
          case rest =>
           clear HC11
           try clear c1
           try clear p1
           try clear q1
           try clear hx1
           try clear c2
           try clear p2
           try clear c4
           try clear c4b0
           try clear c4b1
           try clear c5
           try clear c5b0
           try clear c5b1
           try clear c8
           try clear c9
           try clear c9b0
           try clear c10
           try clear c10b0
           try clear p11
           try clear q11
           try clear hx11
           try clear c14
           try clear c14b0
           try clear c14b1
           try clear c16
           try clear c16b0
           try clear c17
           try clear c17b0
           try clear hcz13_0
           try clear hcz13_1
           try clear hcz13_2
           try clear hcz13_3
           try clear hcz15_0
           try clear hcz15_1
           try clear hcz15_2
           try clear hcz15_3
           try clear hcz18_0
           try clear hcz18_1
           try clear hcz18_2
           try clear hcz18_3
           try clear hfz13_0
           try clear hfz13_1
           try clear hfz13_2
           try clear hfz13_3
           try clear hfz15_0
           try clear hfz15_1
           try clear hfz15_2
           try clear hfz15_3
           try clear hfz18_0
           try clear hfz18_1
           try clear hfz18_2
           try clear hfz18_3
           try clear hx117_0
           try clear hx117_1
           try clear hx117_2
           try clear hx117_3
           try clear hx119_0
           try clear p117
           try clear p119
           try clear p2
           try clear q117
           try clear q119
           obtain ⟨kq, x11_10, rfl, HA, HJ10, HO_7, BK118, HB⟩ := hcut
           cases kq with
           | zero => exact absurd HA.out (by simp [caulkerref21_Solve.j2])
           | succ kj10 =>
            have H := HA.out
            clear HA
            simp only [caulkerref21_Solve.j2] at H
            have H' := Aside0.mk H
            clear H
            go_wp2
            repeat (go_quiet (fail); try go_wp2)
            go_loopg [11, 12] kj10 (fun kq v11 v12 w' => ∃ (x11_4 : Bool) (x12_4 : Int), v11 = .bool x11_4 ∧ v12 = .int .i64 x12_4 ∧ Aside0 (caulkerref21_Solve.l2 kq l1 l2 x7_2 x8_2 x9_2 x11_4 x12_4 ((rd_T41 l1 x9_2).f0) ((rd_T41 l1 x9_2).f1) ((rd_T41 l1 x9_2).f2) ((rd_T41 l1 x9_2).f3) = some r) ∧ Aside0 (kq ≤ kj10) ∧ Aside0 (Kd.R Kd.bool 4 w' w.heap.size (fun _ => True) v115 x7_2) ∧ Aside0 (w'.heap[gb118]? = some (.cells #[.int .i64 ((rd_T41 l1 x9_2).f0), .int .i64 ((rd_T41 l1 x9_2).f1), .int .i64 ((rd_T41 l1 x9_2).f2), .int .i64 ((rd_T41 l1 x9_2).f3)] 41 (0, 0))) ∧ Aside0 (Below w.heap.size w w'))
            case atStart => exact ⟨(x11_10), (0), (by first | rfl | (simp; done) | (simp [*]; done)), (by first | rfl | (simp; done) | (simp [*]; done)), H', ⟨Nat.le_refl _⟩, ⟨pxr HO_7⟩, ⟨pxq BK118⟩, ⟨pxb HB⟩⟩
            case round =>
             clear H'
             try clear c1
             try clear p1
             try clear q1
             try clear hx1
             try clear c2
             try clear p2
             try clear c4
             try clear c4b0
             try clear c4b1
             try clear c5
             try clear c5b0
             try clear c5b1
             try clear c8
             try clear c9
             try clear c9b0
             try clear c10
             try clear c10b0
             try clear p11
             try clear q11
             try clear hx11
             try clear c14
             try clear c14b0
             try clear c14b1
             try clear c16
             try clear c16b0
             try clear c17
             try clear c17b0
             try clear hcz13_0
             try clear hcz13_1
             try clear hcz13_2
             try clear hcz13_3
             try clear hcz15_0
             try clear hcz15_1
             try clear hcz15_2
             try clear hcz15_3
             try clear hcz18_0
             try clear hcz18_1
             try clear hcz18_2
             try clear hcz18_3
             try clear hfz13_0
             try clear hfz13_1
             try clear hfz13_2
             try clear hfz13_3
             try clear hfz15_0
             try clear hfz15_1
             try clear hfz15_2
             try clear hfz15_3
             try clear hfz18_0
             try clear hfz18_1
             try clear hfz18_2
             try clear hfz18_3
             try clear hx117_0
             try clear hx117_1
             try clear hx117_2
             try clear hx117_3
             try clear hx119_0
             try clear p1
             try clear p11
             try clear p117
             try clear p119
             try clear p2
             try clear q1
             try clear q11
             try clear q117
             try clear q119
             obtain ⟨x11_4, x12_4, rfl, rfl, HA, HK4, HO_7, BK118, HB⟩ := hrel
             cases gk with
             | zero => exact absurd HA.out (by simp [caulkerref21_Solve.l2])
             | succ k4 =>
              have H := HA.out
              clear HA
              simp only [caulkerref21_Solve.l2] at H
              by_cases c20 : x12_4 < (l2.length : Int)
              ·rw [if_pos c20] at H
               have c20b0 : decide (x12_4 < (l2.length : Int)) = true := decide_eq_true c20
               clear c20
               by_cases c21 : 0 ≤ x12_4
               ·rw [if_pos c21] at H
                have c21b0 : decide (0 ≤ x12_4) = true := decide_eq_true c21
                clear c21
                by_cases c22 : (rd l2 x12_4) = ((rd_T41 l1 x9_2).f1)
                ·rw [if_pos c22] at H
                 have c22b0 : ((rd l2 x12_4) == ((rd_T41 l1 x9_2).f1)) = true := beq_iff_eq.mpr c22
                 have c22b1 : ((rd l2 x12_4) != ((rd_T41 l1 x9_2).f1)) = false := bne_eq_false_iff_eq.mpr c22
                 clear c22
                 have H' := Aside0.mk H
                 clear H
                 have p120 : 0 ≤ (x12_4 : Int) := of_decide_eq_true (by first | (with_reducible assumption) | assumption)
                 have q120 : x12_4 < (l2.length : Int) := of_decide_eq_true (by first | (with_reducible assumption) | assumption)
                 obtain ⟨ad120, e120, hx120_0⟩ := Kd.at_int HR2.out x12_4 p120 q120
                 cases e120
                 replace hx120_0 := (HB.out.cell (World.block_lt_of_cell? w _ hx120_0)).trans hx120_0
                 replace p120 := eq_true p120
                 replace q120 := eq_true q120
                 have hcz23_0 : wr.cell? ⟨gb118, 0, none⟩ = some (.int .i64 ((rd_T41 l1 x9_2).f0)) := (blk_cell BK118.out 0).trans rfl
                 have hcz23_1 : wr.cell? ⟨gb118, 1, none⟩ = some (.int .i64 ((rd_T41 l1 x9_2).f1)) := (blk_cell BK118.out 1).trans rfl
                 have hcz23_2 : wr.cell? ⟨gb118, 2, none⟩ = some (.int .i64 ((rd_T41 l1 x9_2).f2)) := (blk_cell BK118.out 2).trans rfl
                 have hcz23_3 : wr.cell? ⟨gb118, 3, none⟩ = some (.int .i64 ((rd_T41 l1 x9_2).f3)) := (blk_cell BK118.out 3).trans rfl
                 have hfz23_0 := blk_frozen BK118.out 0
                 have hfz23_1 := blk_frozen BK118.out 1
                 have hfz23_2 := blk_frozen BK118.out 2
                 have hfz23_3 := blk_frozen BK118.out 3
                 go_wp2
                 repeat (go_quiet (fail); try go_wp2)
                 go_roundg k4
                 case measure => have := HK1.out; have := HK2.out; have := HJ10.out; have := HK4.out; omega
                 case rel => exact ⟨(false), (wrap64 (x12_4 + 1)), (by first | rfl | (simp; done) | (simp [*]; done)), (by first | rfl | (simp; done) | (simp [*]; done)), H', ⟨by have := HK1.out; have := HK2.out; have := HJ10.out; have := HK4.out; omega⟩, ⟨pxr HO_7⟩, ⟨pxq BK118⟩, ⟨pxb HB⟩⟩
                ·rw [if_neg c22] at H
                 have c22b0 : ((rd l2 x12_4) == ((rd_T41 l1 x9_2).f1)) = false := beq_eq_false_iff_ne.mpr c22
                 have c22b1 : ((rd l2 x12_4) != ((rd_T41 l1 x9_2).f1)) = true := bne_iff_ne.mpr c22
                 have H' := Aside0.mk H
                 clear H
                 have p120 : 0 ≤ (x12_4 : Int) := of_decide_eq_true (by first | (with_reducible assumption) | assumption)
                 have q120 : x12_4 < (l2.length : Int) := of_decide_eq_true (by first | (with_reducible assumption) | assumption)
                 obtain ⟨ad120, e120, hx120_0⟩ := Kd.at_int HR2.out x12_4 p120 q120
                 cases e120
                 replace hx120_0 := (HB.out.cell (World.block_lt_of_cell? w _ hx120_0)).trans hx120_0
                 replace p120 := eq_true p120
                 replace q120 := eq_true q120
                 have hcz24_0 : wr.cell? ⟨gb118, 0, none⟩ = some (.int .i64 ((rd_T41 l1 x9_2).f0)) := (blk_cell BK118.out 0).trans rfl
                 have hcz24_1 : wr.cell? ⟨gb118, 1, none⟩ = some (.int .i64 ((rd_T41 l1 x9_2).f1)) := (blk_cell BK118.out 1).trans rfl
                 have hcz24_2 : wr.cell? ⟨gb118, 2, none⟩ = some (.int .i64 ((rd_T41 l1 x9_2).f2)) := (blk_cell BK118.out 2).trans rfl
                 have hcz24_3 : wr.cell? ⟨gb118, 3, none⟩ = some (.int .i64 ((rd_T41 l1 x9_2).f3)) := (blk_cell BK118.out 3).trans rfl
                 have hfz24_0 := blk_frozen BK118.out 0
                 have hfz24_1 := blk_frozen BK118.out 1
                 have hfz24_2 := blk_frozen BK118.out 2
                 have hfz24_3 := blk_frozen BK118.out 3
                 go_wp2
                 repeat (go_quiet (fail); try go_wp2)
                 go_roundg k4
                 case measure => have := HK1.out; have := HK2.out; have := HJ10.out; have := HK4.out; omega
                 case rel => exact ⟨(x11_4), (wrap64 (x12_4 + 1)), (by first | rfl | (simp; done) | (simp [*]; done)), (by first | rfl | (simp; done) | (simp [*]; done)), H', ⟨by have := HK1.out; have := HK2.out; have := HJ10.out; have := HK4.out; omega⟩, ⟨pxr HO_7⟩, ⟨pxq BK118⟩, ⟨pxb HB⟩⟩
               ·rw [if_neg c21] at H
                exact absurd H (by simp)
              ·rw [if_neg c20] at H
               have c20b0 : decide (x12_4 < (l2.length : Int)) = false := decide_eq_false c20
               clear c20
               by_cases c25 : x11_4 = true
               ·subst c25
                have H1 : (if 0 ≤ ((rd_T41 l1 x9_2).f1) then (if ((rd_T41 l1 x9_2).f1) < (x7_2.length : Int) then (if rdOf false x7_2 ((rd_T41 l1 x9_2).f1) = true then (caulkerref21_Solve.l1 k4 l1 l2 x7_2 x8_2 (wrap64 (x9_2 + 1))) else (caulkerref21_Solve.l1 k4 l1 l2 (x7_2.set (((rd_T41 l1 x9_2).f1) : Int).toNat true) true (wrap64 (x9_2 + 1)))) else (none)) else (none)) = some r := by rw [if_pos rfl] at H; exact H
                clear H
                have H := H1
                clear H1
                by_cases c26 : 0 ≤ ((rd_T41 l1 x9_2).f1)
                ·rw [if_pos c26] at H
                 have c26b0 : decide (0 ≤ ((rd_T41 l1 x9_2).f1)) = true := decide_eq_true c26
                 clear c26
                 by_cases c27 : ((rd_T41 l1 x9_2).f1) < (x7_2.length : Int)
                 ·rw [if_pos c27] at H
                  have c27b0 : decide (((rd_T41 l1 x9_2).f1) < (x7_2.length : Int)) = true := decide_eq_true c27
                  clear c27
                  obtain ⟨bq28, hbq28⟩ : ∃ b_ : Bool, b_ = (rdOf false x7_2 ((rd_T41 l1 x9_2).f1)) := ⟨_, rfl⟩
                  replace H : (if bq28 = true then (caulkerref21_Solve.l1 k4 l1 l2 x7_2 x8_2 (wrap64 (x9_2 + 1))) else (caulkerref21_Solve.l1 k4 l1 l2 (x7_2.set (((rd_T41 l1 x9_2).f1) : Int).toNat true) true (wrap64 (x9_2 + 1)))) = some r := by rw [← hbq28] at H; exact H
                  have Nbq28 := Aside0.mk hbq28
                  clear hbq28
                  by_cases c29 : bq28 = true
                  ·subst c29
                   have H1 : (caulkerref21_Solve.l1 k4 l1 l2 x7_2 x8_2 (wrap64 (x9_2 + 1))) = some r := by rw [if_pos rfl] at H; exact H
                   clear H
                   have H := H1
                   clear H1
                   have H' := Aside0.mk H
                   clear H
                   have hcz30_0 : wr.cell? ⟨gb118, 0, none⟩ = some (.int .i64 ((rd_T41 l1 x9_2).f0)) := (blk_cell BK118.out 0).trans rfl
                   have hcz30_1 : wr.cell? ⟨gb118, 1, none⟩ = some (.int .i64 ((rd_T41 l1 x9_2).f1)) := (blk_cell BK118.out 1).trans rfl
                   have hcz30_2 : wr.cell? ⟨gb118, 2, none⟩ = some (.int .i64 ((rd_T41 l1 x9_2).f2)) := (blk_cell BK118.out 2).trans rfl
                   have hcz30_3 : wr.cell? ⟨gb118, 3, none⟩ = some (.int .i64 ((rd_T41 l1 x9_2).f3)) := (blk_cell BK118.out 3).trans rfl
                   have hfz30_0 := blk_frozen BK118.out 0
                   have hfz30_1 := blk_frozen BK118.out 1
                   have hfz30_2 := blk_frozen BK118.out 2
                   have hfz30_3 := blk_frozen BK118.out 3
                   obtain ⟨Ao31, co31, eo31⟩ := Kd.R_slice HO_7.out
                   subst eo31
                   have p121 : 0 ≤ (((rd_T41 l1 x9_2).f1) : Int) := of_decide_eq_true (by first | (with_reducible assumption) | assumption)
                   have q121 : ((rd_T41 l1 x9_2).f1) < (x7_2.length : Int) := of_decide_eq_true (by first | (with_reducible assumption) | assumption)
                   obtain ⟨ad121, e121, hx121_0⟩ := Kd.at_bool (Kd.R_reads' HO_7.out).2.2 ((rd_T41 l1 x9_2).f1) p121 q121
                   (try rw [← Nbq28.out] at hx121_0)
                   cases e121
                   replace p121 := eq_true p121
                   replace q121 := eq_true q121
                   go_wp2
                   repeat (go_quiet (fail); try go_wp2)
                   go_roundg k4
                   case measure => have := HK1.out; have := HK2.out; have := HJ10.out; have := HK4.out; omega
                   case rel => exact ⟨(x7_2), (x8_2), (wrap64 (x9_2 + 1)), (by first | rfl | (simp; done) | (simp [*]; done)), (by first | rfl | (simp; done) | (simp [*]; done)), H', ⟨by have := HK1.out; have := HK2.out; have := HJ10.out; have := HK4.out; omega⟩, ⟨pxr HO_7⟩, ⟨pxb HB⟩⟩
                  ·replace c29 := Bool.eq_false_iff.mpr c29
                   subst c29
                   have H1 : (caulkerref21_Solve.l1 k4 l1 l2 (x7_2.set (((rd_T41 l1 x9_2).f1) : Int).toNat true) true (wrap64 (x9_2 + 1))) = some r := by rw [if_neg (show ¬ (false = true) by decide)] at H; exact H
                   clear H
                   have H := H1
                   clear H1
                   obtain ⟨y122, hy122⟩ : ∃ y_ : List Bool, y_ = (x7_2.set (((rd_T41 l1 x9_2).f1) : Int).toNat true) := ⟨_, rfl⟩
                   replace H : (caulkerref21_Solve.l1 k4 l1 l2 y122 true (wrap64 (x9_2 + 1))) = some r := by first | (rw [hy122]; with_reducible exact H) | (have H2_ := (Option.bind_some _ _).symm.trans H; rw [hy122]; with_reducible exact H2_) | (have H2_ := (Option.bind_some _ _).symm.trans H; with_reducible exact H2_) | with_reducible exact H | (rw [hy122]; exact H) | exact H
                   have Ny122 := Aside0.mk hy122
                   clear hy122
                   have H' := Aside0.mk H
                   clear H
                   have hcz33_0 : wr.cell? ⟨gb118, 0, none⟩ = some (.int .i64 ((rd_T41 l1 x9_2).f0)) := (blk_cell BK118.out 0).trans rfl
                   have hcz33_1 : wr.cell? ⟨gb118, 1, none⟩ = some (.int .i64 ((rd_T41 l1 x9_2).f1)) := (blk_cell BK118.out 1).trans rfl
                   have hcz33_2 : wr.cell? ⟨gb118, 2, none⟩ = some (.int .i64 ((rd_T41 l1 x9_2).f2)) := (blk_cell BK118.out 2).trans rfl
                   have hcz33_3 : wr.cell? ⟨gb118, 3, none⟩ = some (.int .i64 ((rd_T41 l1 x9_2).f3)) := (blk_cell BK118.out 3).trans rfl
                   have hfz33_0 := blk_frozen BK118.out 0
                   have hfz33_1 := blk_frozen BK118.out 1
                   have hfz33_2 := blk_frozen BK118.out 2
                   have hfz33_3 := blk_frozen BK118.out 3
                   obtain ⟨Ao34, co34, eo34⟩ := Kd.R_slice HO_7.out
                   subst eo34
                   have p121 : 0 ≤ (((rd_T41 l1 x9_2).f1) : Int) := of_decide_eq_true (by first | (with_reducible assumption) | assumption)
                   have q121 : ((rd_T41 l1 x9_2).f1) < (x7_2.length : Int) := of_decide_eq_true (by first | (with_reducible assumption) | assumption)
                   obtain ⟨ad121, e121, hx121_0⟩ := Kd.at_bool (Kd.R_reads' HO_7.out).2.2 ((rd_T41 l1 x9_2).f1) p121 q121
                   (try rw [← Nbq28.out] at hx121_0)
                   cases e121
                   replace p121 := eq_true p121
                   replace q121 := eq_true q121
                   have p32 : 0 ≤ (((rd_T41 l1 x9_2).f1) : Int) := of_decide_eq_true (by first | (with_reducible assumption) | assumption)
                   have q32 : (((rd_T41 l1 x9_2).f1) : Int) < ((x7_2.length : Int) : Int) := of_decide_eq_true (by first | (with_reducible assumption) | assumption)
                   obtain ⟨go32, co32, eo32, gb32, gl32, cl32, HG32⟩ := Kd.R_form HO_7.out (by omega)
                   (first | cases eo32 | (injection eo32 with ea_ en_ ec_; (first | subst ea_ | (injection ea_ with ea_; subst ea_)); subst ec_; clear en_))
                   have GB32 := Aside0.mk gb32
                   have GG32 := Aside0.mk HG32
                   clear gb32 gl32 HG32
                   (first | simp only [add_plain] at hx121_0 | skip)
                   obtain ⟨hx32_0, hf32_0⟩ := Kd.R_celln false HO_7.out (((rd_T41 l1 x9_2).f1) : Int) p32 q32
                   replace p32 := eq_true p32
                   replace q32 := eq_true q32
                   have HP35 := Kd.R_putg HO_7.out (((rd_T41 l1 x9_2).f1) : Int) true
                   go_wp2_with (first | ((with_reducible refine gate_store (t := 4) (p := 61) rfl ?_); (try (rw [drewN_self wr]; generalize hq_ : World.drewN wr _ = wr; have n0_ := Aside0.mk (Kd.R_at hq_ HO_7.out); have n1_ := Aside0.mk (blk_at hq_ BK118.out); have n2_ := Aside0.mk (below_at hq_ HB.out); clear hq_ HO_7 BK118 HB; have HO_7 := n0_; have BK118 := n1_; have HB := n2_; clear n0_ n1_ n2_; (try (have HP35 := Kd.R_putg HO_7.out (((rd_T41 l1 x9_2).f1) : Int) true)))); refine store_event (t := 4) (p := 61) (v := ?vo_w36) (w1 := (wr.setCell ⟨go32, (((rd_T41 l1 x9_2).f1) : Int).toNat, none⟩ (.bool true))) ?hg ?ho ?hn ?hr ?_; (case ho => rfl); (case hg => rfl); (case hn => rfl); (case hr => first | (go_simp; done) | (go_simp; rfl)); intro w36 hw; have hg : wr.grownBy w36 (some go32) := (by rw [hw]; exact HP35.2); have hp_ : Kd.R Kd.bool 4 w36 w.heap.size (fun _ => True) (.slice (some ⟨go32, 0, none⟩) x7_2.length co34) y122 := (by rw [hw, Ny122.out]; exact HP35.1); clear HP35; have n0_ := Aside0.mk (hp_); have n1_ := Aside0.mk (blk_grown (g := gb118) (o := .cells #[.int .i64 ((rd_T41 l1 x9_2).f0), .int .i64 ((rd_T41 l1 x9_2).f1), .int .i64 ((rd_T41 l1 x9_2).f2), .int .i64 ((rd_T41 l1 x9_2).f3)] 41 (0, 0)) (pxq BK118) hg (Kd.R_ne HO_7.out BK118.out (by decide))); have n2_ := Aside0.mk ((by rw [hw]; exact below_set (HB.out) GB32.out : Below w.heap.size w w36)); clear HO_7; clear BK118; clear HB; have HO_7 := n0_; have BK118 := n1_; have HB := n2_; clear n0_ n1_ n2_; clear hg hw hp_))
                   repeat (go_quiet (first | ((with_reducible refine gate_store (t := 4) (p := 61) rfl ?_); (try (rw [drewN_self wr]; generalize hq_ : World.drewN wr _ = wr; have n0_ := Aside0.mk (Kd.R_at hq_ HO_7.out); have n1_ := Aside0.mk (blk_at hq_ BK118.out); have n2_ := Aside0.mk (below_at hq_ HB.out); clear hq_ HO_7 BK118 HB; have HO_7 := n0_; have BK118 := n1_; have HB := n2_; clear n0_ n1_ n2_; (try (have HP35 := Kd.R_putg HO_7.out (((rd_T41 l1 x9_2).f1) : Int) true)))); refine store_event (t := 4) (p := 61) (v := ?vo_w36) (w1 := (wr.setCell ⟨go32, (((rd_T41 l1 x9_2).f1) : Int).toNat, none⟩ (.bool true))) ?hg ?ho ?hn ?hr ?_; (case ho => rfl); (case hg => rfl); (case hn => rfl); (case hr => first | (go_simp; done) | (go_simp; rfl)); intro w36 hw; have hg : wr.grownBy w36 (some go32) := (by rw [hw]; exact HP35.2); have hp_ : Kd.R Kd.bool 4 w36 w.heap.size (fun _ => True) (.slice (some ⟨go32, 0, none⟩) x7_2.length co34) y122 := (by rw [hw, Ny122.out]; exact HP35.1); clear HP35; have n0_ := Aside0.mk (hp_); have n1_ := Aside0.mk (blk_grown (g := gb118) (o := .cells #[.int .i64 ((rd_T41 l1 x9_2).f0), .int .i64 ((rd_T41 l1 x9_2).f1), .int .i64 ((rd_T41 l1 x9_2).f2), .int .i64 ((rd_T41 l1 x9_2).f3)] 41 (0, 0)) (pxq BK118) hg (Kd.R_ne HO_7.out BK118.out (by decide))); have n2_ := Aside0.mk ((by rw [hw]; exact below_set (HB.out) GB32.out : Below w.heap.size w w36)); clear HO_7; clear BK118; clear HB; have HO_7 := n0_; have BK118 := n1_; have HB := n2_; clear n0_ n1_ n2_; clear hg hw hp_)); try go_wp2_with (first | ((with_reducible refine gate_store (t := 4) (p := 61) rfl ?_); (try (rw [drewN_self wr]; generalize hq_ : World.drewN wr _ = wr; have n0_ := Aside0.mk (Kd.R_at hq_ HO_7.out); have n1_ := Aside0.mk (blk_at hq_ BK118.out); have n2_ := Aside0.mk (below_at hq_ HB.out); clear hq_ HO_7 BK118 HB; have HO_7 := n0_; have BK118 := n1_; have HB := n2_; clear n0_ n1_ n2_; (try (have HP35 := Kd.R_putg HO_7.out (((rd_T41 l1 x9_2).f1) : Int) true)))); refine store_event (t := 4) (p := 61) (v := ?vo_w36) (w1 := (wr.setCell ⟨go32, (((rd_T41 l1 x9_2).f1) : Int).toNat, none⟩ (.bool true))) ?hg ?ho ?hn ?hr ?_; (case ho => rfl); (case hg => rfl); (case hn => rfl); (case hr => first | (go_simp; done) | (go_simp; rfl)); intro w36 hw; have hg : wr.grownBy w36 (some go32) := (by rw [hw]; exact HP35.2); have hp_ : Kd.R Kd.bool 4 w36 w.heap.size (fun _ => True) (.slice (some ⟨go32, 0, none⟩) x7_2.length co34) y122 := (by rw [hw, Ny122.out]; exact HP35.1); clear HP35; have n0_ := Aside0.mk (hp_); have n1_ := Aside0.mk (blk_grown (g := gb118) (o := .cells #[.int .i64 ((rd_T41 l1 x9_2).f0), .int .i64 ((rd_T41 l1 x9_2).f1), .int .i64 ((rd_T41 l1 x9_2).f2), .int .i64 ((rd_T41 l1 x9_2).f3)] 41 (0, 0)) (pxq BK118) hg (Kd.R_ne HO_7.out BK118.out (by decide))); have n2_ := Aside0.mk ((by rw [hw]; exact below_set (HB.out) GB32.out : Below w.heap.size w w36)); clear HO_7; clear BK118; clear HB; have HO_7 := n0_; have BK118 := n1_; have HB := n2_; clear n0_ n1_ n2_; clear hg hw hp_)))
                   go_roundg k4
                   case measure => have := HK1.out; have := HK2.out; have := HJ10.out; have := HK4.out; omega
                   case rel => exact ⟨(y122), (true), (wrap64 (x9_2 + 1)), (by first | rfl | (simp; done) | (simp [*]; done)), (by first | rfl | (simp; done) | (simp [*]; done)), H', ⟨by have := HK1.out; have := HK2.out; have := HJ10.out; have := HK4.out; omega⟩, ⟨pxr HO_7⟩, ⟨pxb HB⟩⟩
                 ·rw [if_neg c27] at H
                  exact absurd H (by simp)
                ·rw [if_neg c26] at H
                 exact absurd H (by simp)
               ·replace c25 := Bool.eq_false_iff.mpr c25
                subst c25
                have H1 : (caulkerref21_Solve.l1 k4 l1 l2 x7_2 x8_2 (wrap64 (x9_2 + 1))) = some r := by rw [if_neg (show ¬ (false = true) by decide)] at H; exact H
                clear H
                have H := H1
                clear H1
                have H' := Aside0.mk H
                clear H
                go_wp2
                repeat (go_quiet (fail); try go_wp2)
                go_roundg k4
                case measure => have := HK1.out; have := HK2.out; have := HJ10.out; have := HK4.out; omega
                case rel => exact ⟨(x7_2), (x8_2), (wrap64 (x9_2 + 1)), (by first | rfl | (simp; done) | (simp [*]; done)), (by first | rfl | (simp; done) | (simp [*]; done)), H', ⟨by have := HK1.out; have := HK2.out; have := HJ10.out; have := HK4.out; omega⟩, ⟨pxr HO_7⟩, ⟨pxb HB⟩⟩
         ·rw [if_neg c10] at H
          exact absurd H (by simp)
        ·rw [if_neg c9] at H
         have c9b0 : decide (x9_2 < (l1.length : Int)) = false := decide_eq_false c9
         clear c9
         have H' := Aside0.mk H
         clear H
         go_wp2
         repeat (go_quiet (fail); try go_wp2)
         go_roundg k2
         case measure => have := HK1.out; have := HK2.out; omega
         case rel => exact ⟨(x7_2), (x8_2), (by first | rfl | (simp; done) | (simp [*]; done)), H', ⟨by have := HK1.out; have := HK2.out; omega⟩, ⟨pxr HO_7⟩, ⟨pxb HB⟩⟩
     ·replace c8 := Bool.eq_false_iff.mpr c8
      subst c8
      have H1 : (some x7_1) = some r := by rw [if_neg (show ¬ (false = true) by decide)] at H; exact H
      clear H
      have H := H1
      clear H1
      obtain rfl := Option.some.inj H
      go_wp2
      repeat (go_quiet (fail); try go_wp2)
      go_ret
      exact ⟨_, by first | rfl | (simp [errW_none, errW_some] <;> rfl) | (simp [*, errW_none, errW_some] <;> rfl), pxr HO_7, pxb HB⟩
  ·rw [if_neg c5] at H
   exact absurd H (by simp)
 ·rw [if_neg c4] at H
  exact absurd H (by simp)

end Go.Proofs.Ytefgfnhhoidbdaa.X
