/- What the program's functions answer, as Lean functions, and that each call does just that; no condition. Written by a program (px.py) out of the translation. -/
import Derived.Test.YtefgfnhhoidbdaaX0
namespace Go.Proofs.Ytefgfnhhoidbdaa.X
open Go.RowKit Go.Proofs.YtefgfnhhoidbdaaW.PrintWords Go.Proofs.YtefgfnhhoidbdaaW.PrintLast Go.Proofs.YtefgfnhhoidbdaaW.PrintMore
attribute [local go_sem] max2_int min2_int max_two min_two max_three min_three max_four min_four   -- for this text's walks alone
set_option linter.unusedVariables false
set_option linter.unusedSimpArgs false

/-! ### caulkerref21_Far: function 38 -/
mutual
def caulkerref21_Far.l0 : Nat → Int → List (S41) → List Int → Int → Option (List Int)
 | 0, _, _, _, _ => none
 | k + 1, x0, x1, x5, x6 => if x6 < x0 then (if 0 ≤ x6 then (if x6 < (x5.length : Int) then (caulkerref21_Far.l0 k x0 x1 (x5.set (x6 : Int).toNat (-1)) (wrap64 (x6 + 1))) else (none)) else (none)) else (caulkerref21_Far.l1 k x1 x5 true)
def caulkerref21_Far.l1 : Nat → List (S41) → List Int → Bool → Option (List Int)
 | 0, _, _, _ => none
 | k + 1, x1, x5, x7 => if x7 = true then (caulkerref21_Far.l2 k x1 x5 false 0) else (some x5)
def caulkerref21_Far.l2 : Nat → List (S41) → List Int → Bool → Int → Option (List Int)
 | 0, _, _, _, _ => none
 | k + 1, x1, x5, x7, x8 => if x8 < (x1.length : Int) then (if 0 ≤ x8 then (if ((rd_T41 x1 x8).f0) ≥ 0 then (if 0 ≤ ((rd_T41 x1 x8).f0) then (if ((rd_T41 x1 x8).f0) < (x5.length : Int) then (if (rd x5 ((rd_T41 x1 x8).f0)) ≥ 0 then (if 0 ≤ ((rd_T41 x1 x8).f1) then (if ((rd_T41 x1 x8).f1) < (x5.length : Int) then (if (rd x5 ((rd_T41 x1 x8).f1)) < 0 then (caulkerref21_Far.l2 k x1 (x5.set (((rd_T41 x1 x8).f1) : Int).toNat (wrap64 ((rd x5 ((rd_T41 x1 x8).f0)) + 1))) true (wrap64 (x8 + 1))) else (if (rd x5 ((rd_T41 x1 x8).f1)) > (wrap64 ((rd x5 ((rd_T41 x1 x8).f0)) + 1)) then (caulkerref21_Far.l2 k x1 (x5.set (((rd_T41 x1 x8).f1) : Int).toNat (wrap64 ((rd x5 ((rd_T41 x1 x8).f0)) + 1))) true (wrap64 (x8 + 1))) else (caulkerref21_Far.l2 k x1 x5 x7 (wrap64 (x8 + 1))))) else (none)) else (none)) else (caulkerref21_Far.l2 k x1 x5 x7 (wrap64 (x8 + 1)))) else (none)) else (none)) else (if 0 ≥ 0 then (if 0 ≤ ((rd_T41 x1 x8).f1) then (if ((rd_T41 x1 x8).f1) < (x5.length : Int) then (if (rd x5 ((rd_T41 x1 x8).f1)) < 0 then (caulkerref21_Far.l2 k x1 (x5.set (((rd_T41 x1 x8).f1) : Int).toNat 1) true (wrap64 (x8 + 1))) else (if (rd x5 ((rd_T41 x1 x8).f1)) > 1 then (caulkerref21_Far.l2 k x1 (x5.set (((rd_T41 x1 x8).f1) : Int).toNat 1) true (wrap64 (x8 + 1))) else (caulkerref21_Far.l2 k x1 x5 x7 (wrap64 (x8 + 1))))) else (none)) else (none)) else (caulkerref21_Far.l2 k x1 x5 x7 (wrap64 (x8 + 1))))) else (none)) else (caulkerref21_Far.l1 k x1 x5 x7)
end
def caulkerref21_Far.f (k : Nat) (a0 : Int) (l1 : List (S41)) : Option (List Int) := if 0 ≤ a0 then (if (a0 : Int).toNat ≤ 35184372088832 then (caulkerref21_Far.l0 k a0 l1 (List.replicate (a0 : Int).toNat 0) 0) else (none)) else (none)
theorem caulkerref21_Far.mono_l : ∀ k, (∀ y0 y1 y2 y3, LeO (caulkerref21_Far.l0 k y0 y1 y2 y3) (caulkerref21_Far.l0 (k + 1) y0 y1 y2 y3)) ∧ (∀ y0 y1 y2, LeO (caulkerref21_Far.l1 k y0 y1 y2) (caulkerref21_Far.l1 (k + 1) y0 y1 y2)) ∧ (∀ y0 y1 y2 y3, LeO (caulkerref21_Far.l2 k y0 y1 y2 y3) (caulkerref21_Far.l2 (k + 1) y0 y1 y2 y3))
 | 0 => ⟨fun _ _ _ _ r h => by simp [caulkerref21_Far.l0] at h, fun _ _ _ r h => by simp [caulkerref21_Far.l1] at h, fun _ _ _ _ r h => by simp [caulkerref21_Far.l2] at h⟩
 | k + 1 => by
  obtain ⟨ih0, ih1, ih2⟩ := caulkerref21_Far.mono_l k
  refine ⟨?_, ?_, ?_⟩
  ·intro y0 y1 y2 y3
   unfold caulkerref21_Far.l0
   repeat' first
   | (with_reducible exact ih0 _ _ _ _)
   | (with_reducible exact ih1 _ _ _)
   | (with_reducible exact ih2 _ _ _ _)
   | (with_reducible exact LeO.refl _)
   | (with_reducible exact LeO.none _)
   | (with_reducible refine LeO.ite ?_ ?_)
   | (with_reducible refine LeO.bind ?_ (fun _ => ?_))
   | exact ih0 _ _ _ _
   | exact ih1 _ _ _
   | exact ih2 _ _ _ _
   | exact LeO.none _
   | refine LeO.ite ?_ ?_
   | refine LeO.bind ?_ (fun _ => ?_)
  ·intro y0 y1 y2
   unfold caulkerref21_Far.l1
   repeat' first
   | (with_reducible exact ih0 _ _ _ _)
   | (with_reducible exact ih1 _ _ _)
   | (with_reducible exact ih2 _ _ _ _)
   | (with_reducible exact LeO.refl _)
   | (with_reducible exact LeO.none _)
   | (with_reducible refine LeO.ite ?_ ?_)
   | (with_reducible refine LeO.bind ?_ (fun _ => ?_))
   | exact ih0 _ _ _ _
   | exact ih1 _ _ _
   | exact ih2 _ _ _ _
   | exact LeO.none _
   | refine LeO.ite ?_ ?_
   | refine LeO.bind ?_ (fun _ => ?_)
  ·intro y0 y1 y2 y3
   unfold caulkerref21_Far.l2
   repeat' first
   | (with_reducible exact ih0 _ _ _ _)
   | (with_reducible exact ih1 _ _ _)
   | (with_reducible exact ih2 _ _ _ _)
   | (with_reducible exact LeO.refl _)
   | (with_reducible exact LeO.none _)
   | (with_reducible refine LeO.ite ?_ ?_)
   | (with_reducible refine LeO.bind ?_ (fun _ => ?_))
   | exact ih0 _ _ _ _
   | exact ih1 _ _ _
   | exact ih2 _ _ _ _
   | exact LeO.none _
   | refine LeO.ite ?_ ?_
   | refine LeO.bind ?_ (fun _ => ?_)
theorem caulkerref21_Far.mono : ∀ a0 a1 k, LeO (caulkerref21_Far.f k a0 a1) (caulkerref21_Far.f (k + 1) a0 a1) := by
 intro a0 a1 k
 obtain ⟨ih0, ih1, ih2⟩ := caulkerref21_Far.mono_l k
 unfold caulkerref21_Far.f
 repeat' first
   | (with_reducible exact ih0 _ _ _ _)
   | (with_reducible exact ih1 _ _ _)
   | (with_reducible exact ih2 _ _ _ _)
   | (with_reducible exact LeO.refl _)
   | (with_reducible exact LeO.none _)
   | (with_reducible refine LeO.ite ?_ ?_)
   | (with_reducible refine LeO.bind ?_ (fun _ => ?_))
   | exact ih0 _ _ _ _
   | exact ih1 _ _ _
   | exact ih2 _ _ _ _
   | exact LeO.none _
   | refine LeO.ite ?_ ?_
   | refine LeO.bind ?_ (fun _ => ?_)
set_option maxHeartbeats 8000000 in
set_option maxRecDepth 100000 in
theorem caulkerref21_Far.calls (k : Nat) (a0 : Int) (A1 : Option Addr) (c1 : Nat) (l1 : List (S41)) (r : List Int) (w : World) (hr1 : Kd.C k41 w A1 l1.length l1) (hc1 : l1.length ≤ c1) (h : caulkerref21_Far.f k a0 l1 = some r) :
  Calls Try.prog 38 #[.int .i64 a0, .slice A1 l1.length c1] w fun e w' => ∃ v0_ : Value, e = .returned (v0_) ∧ Kd.R (Kd.int .i64) 3 w' w.heap.size (fun _ => True) v0_ r ∧ Below w.heap.size w w' := by
 have HR1 := Aside0.mk hr1
 have HC1 := Aside0.mk hc1
 clear hr1 hc1
 have HB := Aside0.mk (Below.refl w.heap.size w)
 have H : (if 0 ≤ a0 then (if (a0 : Int).toNat ≤ 35184372088832 then (caulkerref21_Far.l0 k a0 l1 (List.replicate (a0 : Int).toNat 0) 0) else (none)) else (none)) = some r := h
 clear h
 by_cases c3 : 0 ≤ a0
 ·rw [if_pos c3] at H
  have c3b0 := eq_true c3
  have c3b1 : decide (0 ≤ a0) = true := decide_eq_true c3
  clear c3
  by_cases c4 : (a0 : Int).toNat ≤ 35184372088832
  ·rw [if_pos c4] at H
   have c4b0 := eq_true c4
   have c4b1 : decide ((a0 : Int).toNat ≤ 35184372088832) = true := decide_eq_true c4
   clear c4
   obtain ⟨y130, hy130⟩ : ∃ y_ : List Int, y_ = (List.replicate (a0 : Int).toNat 0) := ⟨_, rfl⟩
   replace H : (caulkerref21_Far.l0 k a0 l1 y130 0) = some r := by first | (rw [hy130]; with_reducible exact H) | (have H2_ := (Option.bind_some _ _).symm.trans H; rw [hy130]; with_reducible exact H2_) | (have H2_ := (Option.bind_some _ _).symm.trans H; with_reducible exact H2_) | with_reducible exact H | (rw [hy130]; exact H) | exact H
   have Ny130 := Aside0.mk hy130
   clear hy130
   have H' := Aside0.mk H
   clear H
   go_enter Try.func38, Try.ntmps38
   go_wp2_with (first | ((with_reducible refine gate_dst (N := 11) rfl ?_); refine Kd.R_make (Kd.int .i64) _ 3 rfl (N := 11) rfl 43 _ _ rfl a0 rfl rfl Try.underlying43 (.int .i64 0) 8 info3 rfl (by decide) (by omega) 0 (ok := fun _ => True) (okp := fun _ => True) rfl (fun _ hk => hk) trivial (of_decide_eq_true (by first | (with_reducible assumption) | assumption)) (Nat.le_trans (Nat.mul_le_mul_right _ (of_decide_eq_true (by first | (with_reducible assumption) | assumption) : a0.toNat ≤ 35184372088832)) (by omega)) (Below.refl _ _) (Nat.le_refl _) ?_; intro v131 w5 ho6 hb hg_ hnew_; clear hg_ hnew_; (first | rw [← Ny130.out] at ho6 | (simp only [Int.reduceToNat] at ho6; rw [← Ny130.out] at ho6)); have n0_ := Aside0.mk (Kd.R_lower ho6 (below_size (pxb HB))); have n1_ := pxs HB hb; clear HB; have HO132 := n0_; have HB := n1_; clear n0_ n1_; clear hb ho6))
   go_loopg [6] k (fun kq v6 w' => ∃ (x5_1 : List Int) (x6_1 : Int), v6 = .int .i64 x6_1 ∧ Aside0 (caulkerref21_Far.l0 kq a0 l1 x5_1 x6_1 = some r) ∧ Aside0 (kq ≤ k) ∧ Aside0 (Kd.R (Kd.int .i64) 3 w' w.heap.size (fun _ => True) v131 x5_1) ∧ Aside0 (Below w.heap.size w w'))
   case atStart => exact ⟨(y130), (0), (by first | rfl | (simp; done) | (simp [*]; done)), H', ⟨Nat.le_refl _⟩, ⟨pxr HO132⟩, ⟨pxb HB⟩⟩
   case round =>
    clear H'
    try clear c1
    try clear p2
    try clear c3
    try clear c3b0
    try clear c3b1
    try clear c4
    try clear c4b0
    try clear c4b1
    obtain ⟨x5_1, x6_1, rfl, HA, HK1, HO_5, HB⟩ := hrel
    cases gk with
    | zero => exact absurd HA.out (by simp [caulkerref21_Far.l0])
    | succ k1 =>
     have H := HA.out
     clear HA
     simp only [caulkerref21_Far.l0] at H
     by_cases c7 : x6_1 < a0
     ·rw [if_pos c7] at H
      have c7b0 : decide (x6_1 < a0) = true := decide_eq_true c7
      clear c7
      by_cases c8 : 0 ≤ x6_1
      ·rw [if_pos c8] at H
       have c8b0 : decide (0 ≤ x6_1) = true := decide_eq_true c8
       clear c8
       by_cases c9 : x6_1 < (x5_1.length : Int)
       ·rw [if_pos c9] at H
        have c9b0 : decide (x6_1 < (x5_1.length : Int)) = true := decide_eq_true c9
        clear c9
        obtain ⟨y133, hy133⟩ : ∃ y_ : List Int, y_ = (x5_1.set (x6_1 : Int).toNat (-1)) := ⟨_, rfl⟩
        replace H : (caulkerref21_Far.l0 k1 a0 l1 y133 (wrap64 (x6_1 + 1))) = some r := by first | (rw [hy133]; with_reducible exact H) | (have H2_ := (Option.bind_some _ _).symm.trans H; rw [hy133]; with_reducible exact H2_) | (have H2_ := (Option.bind_some _ _).symm.trans H; with_reducible exact H2_) | with_reducible exact H | (rw [hy133]; exact H) | exact H
        have Ny133 := Aside0.mk hy133
        clear hy133
        have H' := Aside0.mk H
        clear H
        have p10 : 0 ≤ (x6_1 : Int) := of_decide_eq_true (by first | (with_reducible assumption) | assumption)
        have q10 : (x6_1 : Int) < ((x5_1.length : Int) : Int) := of_decide_eq_true (by first | (with_reducible assumption) | assumption)
        obtain ⟨go10, co10, eo10, gb10, gl10, cl10, HG10⟩ := Kd.R_form HO_5.out (by omega)
        (first | cases eo10 | (injection eo10 with ea_ en_ ec_; (first | subst ea_ | (injection ea_ with ea_; subst ea_)); subst ec_; clear en_))
        have GB10 := Aside0.mk gb10
        have GG10 := Aside0.mk HG10
        clear gb10 gl10 HG10
        obtain ⟨hx10_0, hf10_0⟩ := Kd.R_celln 0 HO_5.out (x6_1 : Int) p10 q10
        replace p10 := eq_true p10
        replace q10 := eq_true q10
        have HP11 := Kd.R_putg HO_5.out (x6_1 : Int) (-1)
        go_wp2_with (first | ((with_reducible refine gate_store (t := 3) (p := 19) rfl ?_); refine store_event (t := 3) (p := 19) (v := ?vo_w12) (w1 := (wr.setCell ⟨go10, (x6_1 : Int).toNat, none⟩ (.int .i64 (-1)))) ?hg ?ho ?hn ?hr ?_; (case ho => rfl); (case hg => rfl); (case hn => rfl); (case hr => first | (go_simp; done) | (go_simp; rfl)); intro w12 hw; have hg : wr.grownBy w12 (some go10) := (by rw [hw]; exact HP11.2); have hp_ : Kd.R (Kd.int .i64) 3 w12 w.heap.size (fun _ => True) (.slice (some ⟨go10, 0, none⟩) x5_1.length co10) y133 := (by rw [hw, Ny133.out]; exact HP11.1); clear HP11; have n0_ := Aside0.mk (hp_); have n1_ := Aside0.mk ((by rw [hw]; exact below_set (HB.out) GB10.out : Below w.heap.size w w12)); clear HO_5; clear HB; have HO_5 := n0_; have HB := n1_; clear n0_ n1_; clear hg hw hp_))
        go_roundg k1
        case measure => have := HK1.out; omega
        case rel => exact ⟨(y133), (wrap64 (x6_1 + 1)), (by first | rfl | (simp; done) | (simp [*]; done)), H', ⟨by have := HK1.out; omega⟩, ⟨pxr HO_5⟩, ⟨pxb HB⟩⟩
       ·rw [if_neg c9] at H
        exact absurd H (by simp)
      ·rw [if_neg c8] at H
       exact absurd H (by simp)
     ·rw [if_neg c7] at H
      have c7b0 : decide (x6_1 < a0) = false := decide_eq_false c7
      clear c7
      have H' := Aside0.mk H
      clear H
      go_wp2
      go_loopg [7] k1 (fun kq v7 w' => ∃ (x5_2 : List Int) (x7_2 : Bool), v7 = .bool x7_2 ∧ Aside0 (caulkerref21_Far.l1 kq l1 x5_2 x7_2 = some r) ∧ Aside0 (kq ≤ k1) ∧ Aside0 (Kd.R (Kd.int .i64) 3 w' w.heap.size (fun _ => True) v131 x5_2) ∧ Aside0 (Below w.heap.size w w'))
      case atStart => exact ⟨(x5_1), (true), (by first | rfl | (simp; done) | (simp [*]; done)), H', ⟨Nat.le_refl _⟩, ⟨pxr HO_5⟩, ⟨pxb HB⟩⟩
      case round =>
       clear H'
       try clear c1
       try clear p1
       try clear q1
       try clear hx1
       try clear p2
       try clear c3
       try clear c3b0
       try clear c3b1
       try clear c4
       try clear c4b0
       try clear c4b1
       try clear p6
       try clear c7
       try clear c7b0
       try clear c8
       try clear c8b0
       try clear c9
       try clear c9b0
       try clear p10
       try clear q10
       try clear hx10
       try clear hf10
       try clear hx10_0
       try clear p10
       try clear p2
       try clear q10
       obtain ⟨x5_2, x7_2, rfl, HA, HK2, HO_5, HB⟩ := hrel
       cases gk with
       | zero => exact absurd HA.out (by simp [caulkerref21_Far.l1])
       | succ k2 =>
        have H := HA.out
        clear HA
        simp only [caulkerref21_Far.l1] at H
        by_cases c13 : x7_2 = true
        ·subst c13
         have H1 : (caulkerref21_Far.l2 k2 l1 x5_2 false 0) = some r := by rw [if_pos rfl] at H; exact H
         clear H
         have H := H1
         clear H1
         have H' := Aside0.mk H
         clear H
         go_wp2
         go_loopg [7, 8] k2 (fun kq v7 v8 w' => ∃ (x5_3 : List Int) (x7_3 : Bool) (x8_3 : Int), v7 = .bool x7_3 ∧ v8 = .int .i64 x8_3 ∧ Aside0 (caulkerref21_Far.l2 kq l1 x5_3 x7_3 x8_3 = some r) ∧ Aside0 (kq ≤ k2) ∧ Aside0 (Kd.R (Kd.int .i64) 3 w' w.heap.size (fun _ => True) v131 x5_3) ∧ Aside0 (Below w.heap.size w w'))
         case atStart => exact ⟨(x5_2), (false), (0), (by first | rfl | (simp; done) | (simp [*]; done)), (by first | rfl | (simp; done) | (simp [*]; done)), H', ⟨Nat.le_refl _⟩, ⟨pxr HO_5⟩, ⟨pxb HB⟩⟩
         case round =>
          clear H'
          try clear c1
          try clear p1
          try clear q1
          try clear hx1
          try clear p2
          try clear c3
          try clear c3b0
          try clear c3b1
          try clear c4
          try clear c4b0
          try clear c4b1
          try clear p6
          try clear c7
          try clear c7b0
          try clear c8
          try clear c8b0
          try clear c9
          try clear c9b0
          try clear p10
          try clear q10
          try clear hx10
          try clear hf10
          try clear c13
          try clear hx10_0
          try clear p1
          try clear p10
          try clear p2
          try clear p6
          try clear q1
          try clear q10
          obtain ⟨x5_3, x7_3, x8_3, rfl, rfl, HA, HK3, HO_5, HB⟩ := hrel
          cases gk with
          | zero => exact absurd HA.out (by simp [caulkerref21_Far.l2])
          | succ k3 =>
           have H := HA.out
           clear HA
           simp only [caulkerref21_Far.l2] at H
           by_cases c14 : x8_3 < (l1.length : Int)
           ·rw [if_pos c14] at H
            have c14b0 : decide (x8_3 < (l1.length : Int)) = true := decide_eq_true c14
            clear c14
            by_cases c15 : 0 ≤ x8_3
            ·rw [if_pos c15] at H
             have c15b0 : decide (0 ≤ x8_3) = true := decide_eq_true c15
             clear c15
             by_cases c16 : ((rd_T41 l1 x8_3).f0) ≥ 0
             ·rw [if_pos c16] at H
              have c16b0 : decide (0 ≤ ((rd_T41 l1 x8_3).f0)) = true := decide_eq_true c16
              clear c16
              by_cases c17 : 0 ≤ ((rd_T41 l1 x8_3).f0)
              ·rw [if_pos c17] at H
               have c17b0 : decide (0 ≤ ((rd_T41 l1 x8_3).f0)) = true := decide_eq_true c17
               clear c17
               by_cases c18 : ((rd_T41 l1 x8_3).f0) < (x5_3.length : Int)
               ·rw [if_pos c18] at H
                have c18b0 : decide (((rd_T41 l1 x8_3).f0) < (x5_3.length : Int)) = true := decide_eq_true c18
                clear c18
                by_cases c19 : (rd x5_3 ((rd_T41 l1 x8_3).f0)) ≥ 0
                ·rw [if_pos c19] at H
                 have c19b0 : decide (0 ≤ (rd x5_3 ((rd_T41 l1 x8_3).f0))) = true := decide_eq_true c19
                 clear c19
                 by_cases c20 : 0 ≤ ((rd_T41 l1 x8_3).f1)
                 ·rw [if_pos c20] at H
                  have c20b0 : decide (0 ≤ ((rd_T41 l1 x8_3).f1)) = true := decide_eq_true c20
                  clear c20
                  by_cases c21 : ((rd_T41 l1 x8_3).f1) < (x5_3.length : Int)
                  ·rw [if_pos c21] at H
                   have c21b0 : decide (((rd_T41 l1 x8_3).f1) < (x5_3.length : Int)) = true := decide_eq_true c21
                   clear c21
                   by_cases c22 : (rd x5_3 ((rd_T41 l1 x8_3).f1)) < 0
                   ·rw [if_pos c22] at H
                    have c22b0 : decide ((rd x5_3 ((rd_T41 l1 x8_3).f1)) < 0) = true := decide_eq_true c22
                    clear c22
                    obtain ⟨y140, hy140⟩ : ∃ y_ : List Int, y_ = (x5_3.set (((rd_T41 l1 x8_3).f1) : Int).toNat (wrap64 ((rd x5_3 ((rd_T41 l1 x8_3).f0)) + 1))) := ⟨_, rfl⟩
                    replace H : (caulkerref21_Far.l2 k3 l1 y140 true (wrap64 (x8_3 + 1))) = some r := by first | (rw [hy140]; with_reducible exact H) | (have H2_ := (Option.bind_some _ _).symm.trans H; rw [hy140]; with_reducible exact H2_) | (have H2_ := (Option.bind_some _ _).symm.trans H; with_reducible exact H2_) | with_reducible exact H | (rw [hy140]; exact H) | exact H
                    have Ny140 := Aside0.mk hy140
                    clear hy140
                    have H' := Aside0.mk H
                    clear H
                    have p134 : 0 ≤ (x8_3 : Int) := of_decide_eq_true (by first | (with_reducible assumption) | assumption)
                    have q134 : x8_3 < (l1.length : Int) := of_decide_eq_true (by first | (with_reducible assumption) | assumption)
                    obtain ⟨ad134, e134, hx134_0, hx134_1, hx134_2, hx134_3⟩ := at_T41 HR1.out x8_3 p134 q134
                    cases e134
                    replace hx134_0 := (HB.out.cell (World.block_lt_of_cell? w _ hx134_0)).trans hx134_0
                    replace hx134_1 := (HB.out.cell (World.block_lt_of_cell? w _ hx134_1)).trans hx134_1
                    replace hx134_2 := (HB.out.cell (World.block_lt_of_cell? w _ hx134_2)).trans hx134_2
                    replace hx134_3 := (HB.out.cell (World.block_lt_of_cell? w _ hx134_3)).trans hx134_3
                    replace p134 := eq_true p134
                    replace q134 := eq_true q134
                    have p135 : 0 ≤ (x8_3 : Int) := of_decide_eq_true (by first | (with_reducible assumption) | assumption)
                    have q135 : x8_3 < (l1.length : Int) := of_decide_eq_true (by first | (with_reducible assumption) | assumption)
                    obtain ⟨ad135, e135, hx135_0, hx135_1, hx135_2, hx135_3⟩ := at_T41 HR1.out x8_3 p135 q135
                    obtain rfl : ad134 = ad135 := (by injection e135)
                    replace hx135_0 := (HB.out.cell (World.block_lt_of_cell? w _ hx135_0)).trans hx135_0
                    replace hx135_1 := (HB.out.cell (World.block_lt_of_cell? w _ hx135_1)).trans hx135_1
                    replace hx135_2 := (HB.out.cell (World.block_lt_of_cell? w _ hx135_2)).trans hx135_2
                    replace hx135_3 := (HB.out.cell (World.block_lt_of_cell? w _ hx135_3)).trans hx135_3
                    replace p135 := eq_true p135
                    replace q135 := eq_true q135
                    obtain ⟨Ao24, co24, eo24⟩ := Kd.R_slice HO_5.out
                    subst eo24
                    have p136 : 0 ≤ (((rd_T41 l1 x8_3).f0) : Int) := of_decide_eq_true (by first | (with_reducible assumption) | assumption)
                    have q136 : ((rd_T41 l1 x8_3).f0) < (x5_3.length : Int) := of_decide_eq_true (by first | (with_reducible assumption) | assumption)
                    obtain ⟨ad136, e136, hx136_0⟩ := Kd.at_int (Kd.R_reads' HO_5.out).2.2 ((rd_T41 l1 x8_3).f0) p136 q136
                    cases e136
                    replace p136 := eq_true p136
                    replace q136 := eq_true q136
                    have p137 : 0 ≤ (x8_3 : Int) := of_decide_eq_true (by first | (with_reducible assumption) | assumption)
                    have q137 : x8_3 < (l1.length : Int) := of_decide_eq_true (by first | (with_reducible assumption) | assumption)
                    obtain ⟨ad137, e137, hx137_0, hx137_1, hx137_2, hx137_3⟩ := at_T41 HR1.out x8_3 p137 q137
                    obtain rfl : ad134 = ad137 := (by injection e137)
                    replace hx137_0 := (HB.out.cell (World.block_lt_of_cell? w _ hx137_0)).trans hx137_0
                    replace hx137_1 := (HB.out.cell (World.block_lt_of_cell? w _ hx137_1)).trans hx137_1
                    replace hx137_2 := (HB.out.cell (World.block_lt_of_cell? w _ hx137_2)).trans hx137_2
                    replace hx137_3 := (HB.out.cell (World.block_lt_of_cell? w _ hx137_3)).trans hx137_3
                    replace p137 := eq_true p137
                    replace q137 := eq_true q137
                    have p138 : 0 ≤ (((rd_T41 l1 x8_3).f1) : Int) := of_decide_eq_true (by first | (with_reducible assumption) | assumption)
                    have q138 : ((rd_T41 l1 x8_3).f1) < (x5_3.length : Int) := of_decide_eq_true (by first | (with_reducible assumption) | assumption)
                    obtain ⟨ad138, e138, hx138_0⟩ := Kd.at_int (Kd.R_reads' HO_5.out).2.2 ((rd_T41 l1 x8_3).f1) p138 q138
                    obtain rfl : ad136 = ad138 := (by injection e138)
                    replace p138 := eq_true p138
                    replace q138 := eq_true q138
                    have p139 : 0 ≤ (x8_3 : Int) := of_decide_eq_true (by first | (with_reducible assumption) | assumption)
                    have q139 : x8_3 < (l1.length : Int) := of_decide_eq_true (by first | (with_reducible assumption) | assumption)
                    obtain ⟨ad139, e139, hx139_0, hx139_1, hx139_2, hx139_3⟩ := at_T41 HR1.out x8_3 p139 q139
                    obtain rfl : ad134 = ad139 := (by injection e139)
                    replace hx139_0 := (HB.out.cell (World.block_lt_of_cell? w _ hx139_0)).trans hx139_0
                    replace hx139_1 := (HB.out.cell (World.block_lt_of_cell? w _ hx139_1)).trans hx139_1
                    replace hx139_2 := (HB.out.cell (World.block_lt_of_cell? w _ hx139_2)).trans hx139_2
                    replace hx139_3 := (HB.out.cell (World.block_lt_of_cell? w _ hx139_3)).trans hx139_3
                    replace p139 := eq_true p139
                    replace q139 := eq_true q139
                    have p23 : 0 ≤ (((rd_T41 l1 x8_3).f1) : Int) := of_decide_eq_true (by first | (with_reducible assumption) | assumption)
                    have q23 : (((rd_T41 l1 x8_3).f1) : Int) < ((x5_3.length : Int) : Int) := of_decide_eq_true (by first | (with_reducible assumption) | assumption)
                    obtain ⟨go23, co23, eo23, gb23, gl23, cl23, HG23⟩ := Kd.R_form HO_5.out (by omega)
                    (first | cases eo23 | (injection eo23 with ea_ en_ ec_; (first | subst ea_ | (injection ea_ with ea_; subst ea_)); subst ec_; clear en_))
                    have GB23 := Aside0.mk gb23
                    have GG23 := Aside0.mk HG23
                    clear gb23 gl23 HG23
                    (first | simp only [add_plain] at hx136_0 | skip)
                    (first | simp only [add_plain] at hx138_0 | skip)
                    obtain ⟨hx23_0, hf23_0⟩ := Kd.R_celln 0 HO_5.out (((rd_T41 l1 x8_3).f1) : Int) p23 q23
                    replace p23 := eq_true p23
                    replace q23 := eq_true q23
                    have HP25 := Kd.R_putg HO_5.out (((rd_T41 l1 x8_3).f1) : Int) (wrap64 ((rd x5_3 ((rd_T41 l1 x8_3).f0)) + 1))
                    go_wp2_with (first | ((with_reducible refine gate_store (t := 3) (p := 75) rfl ?_); refine store_event (t := 3) (p := 75) (v := ?vo_w26) (w1 := (wr.setCell ⟨go23, (((rd_T41 l1 x8_3).f1) : Int).toNat, none⟩ (.int .i64 (wrap64 ((rd x5_3 ((rd_T41 l1 x8_3).f0)) + 1))))) ?hg ?ho ?hn ?hr ?_; (case ho => rfl); (case hg => rfl); (case hn => rfl); (case hr => first | (go_simp; done) | (go_simp; rfl)); intro w26 hw; have hg : wr.grownBy w26 (some go23) := (by rw [hw]; exact HP25.2); have hp_ : Kd.R (Kd.int .i64) 3 w26 w.heap.size (fun _ => True) (.slice (some ⟨go23, 0, none⟩) x5_3.length co24) y140 := (by rw [hw, Ny140.out]; exact HP25.1); clear HP25; have n0_ := Aside0.mk (hp_); have n1_ := Aside0.mk ((by rw [hw]; exact below_set (HB.out) GB23.out : Below w.heap.size w w26)); clear HO_5; clear HB; have HO_5 := n0_; have HB := n1_; clear n0_ n1_; clear hg hw hp_))
                    go_roundg k3
                    case measure => have := HK1.out; have := HK2.out; have := HK3.out; omega
                    case rel => exact ⟨(y140), (true), (wrap64 (x8_3 + 1)), (by first | rfl | (simp; done) | (simp [*]; done)), (by first | rfl | (simp; done) | (simp [*]; done)), H', ⟨by have := HK1.out; have := HK2.out; have := HK3.out; omega⟩, ⟨pxr HO_5⟩, ⟨pxb HB⟩⟩
                   ·rw [if_neg c22] at H
                    have c22b0 : decide ((rd x5_3 ((rd_T41 l1 x8_3).f1)) < 0) = false := decide_eq_false c22
                    clear c22
                    by_cases c27 : (rd x5_3 ((rd_T41 l1 x8_3).f1)) > (wrap64 ((rd x5_3 ((rd_T41 l1 x8_3).f0)) + 1))
                    ·rw [if_pos c27] at H
                     have c27b0 : decide ((wrap64 ((rd x5_3 ((rd_T41 l1 x8_3).f0)) + 1)) < (rd x5_3 ((rd_T41 l1 x8_3).f1))) = true := decide_eq_true c27
                     clear c27
                     obtain ⟨y144, hy144⟩ : ∃ y_ : List Int, y_ = (x5_3.set (((rd_T41 l1 x8_3).f1) : Int).toNat (wrap64 ((rd x5_3 ((rd_T41 l1 x8_3).f0)) + 1))) := ⟨_, rfl⟩
                     replace H : (caulkerref21_Far.l2 k3 l1 y144 true (wrap64 (x8_3 + 1))) = some r := by first | (rw [hy144]; with_reducible exact H) | (have H2_ := (Option.bind_some _ _).symm.trans H; rw [hy144]; with_reducible exact H2_) | (have H2_ := (Option.bind_some _ _).symm.trans H; with_reducible exact H2_) | with_reducible exact H | (rw [hy144]; exact H) | exact H
                     have Ny144 := Aside0.mk hy144
                     clear hy144
                     have H' := Aside0.mk H
                     clear H
                     have p134 : 0 ≤ (x8_3 : Int) := of_decide_eq_true (by first | (with_reducible assumption) | assumption)
                     have q134 : x8_3 < (l1.length : Int) := of_decide_eq_true (by first | (with_reducible assumption) | assumption)
                     obtain ⟨ad134, e134, hx134_0, hx134_1, hx134_2, hx134_3⟩ := at_T41 HR1.out x8_3 p134 q134
                     cases e134
                     replace hx134_0 := (HB.out.cell (World.block_lt_of_cell? w _ hx134_0)).trans hx134_0
                     replace hx134_1 := (HB.out.cell (World.block_lt_of_cell? w _ hx134_1)).trans hx134_1
                     replace hx134_2 := (HB.out.cell (World.block_lt_of_cell? w _ hx134_2)).trans hx134_2
                     replace hx134_3 := (HB.out.cell (World.block_lt_of_cell? w _ hx134_3)).trans hx134_3
                     replace p134 := eq_true p134
                     replace q134 := eq_true q134
                     have p135 : 0 ≤ (x8_3 : Int) := of_decide_eq_true (by first | (with_reducible assumption) | assumption)
                     have q135 : x8_3 < (l1.length : Int) := of_decide_eq_true (by first | (with_reducible assumption) | assumption)
                     obtain ⟨ad135, e135, hx135_0, hx135_1, hx135_2, hx135_3⟩ := at_T41 HR1.out x8_3 p135 q135
                     obtain rfl : ad134 = ad135 := (by injection e135)
                     replace hx135_0 := (HB.out.cell (World.block_lt_of_cell? w _ hx135_0)).trans hx135_0
                     replace hx135_1 := (HB.out.cell (World.block_lt_of_cell? w _ hx135_1)).trans hx135_1
                     replace hx135_2 := (HB.out.cell (World.block_lt_of_cell? w _ hx135_2)).trans hx135_2
                     replace hx135_3 := (HB.out.cell (World.block_lt_of_cell? w _ hx135_3)).trans hx135_3
                     replace p135 := eq_true p135
                     replace q135 := eq_true q135
                     obtain ⟨Ao29, co29, eo29⟩ := Kd.R_slice HO_5.out
                     subst eo29
                     have p136 : 0 ≤ (((rd_T41 l1 x8_3).f0) : Int) := of_decide_eq_true (by first | (with_reducible assumption) | assumption)
                     have q136 : ((rd_T41 l1 x8_3).f0) < (x5_3.length : Int) := of_decide_eq_true (by first | (with_reducible assumption) | assumption)
                     obtain ⟨ad136, e136, hx136_0⟩ := Kd.at_int (Kd.R_reads' HO_5.out).2.2 ((rd_T41 l1 x8_3).f0) p136 q136
                     cases e136
                     replace p136 := eq_true p136
                     replace q136 := eq_true q136
                     have p137 : 0 ≤ (x8_3 : Int) := of_decide_eq_true (by first | (with_reducible assumption) | assumption)
                     have q137 : x8_3 < (l1.length : Int) := of_decide_eq_true (by first | (with_reducible assumption) | assumption)
                     obtain ⟨ad137, e137, hx137_0, hx137_1, hx137_2, hx137_3⟩ := at_T41 HR1.out x8_3 p137 q137
                     obtain rfl : ad134 = ad137 := (by injection e137)
                     replace hx137_0 := (HB.out.cell (World.block_lt_of_cell? w _ hx137_0)).trans hx137_0
                     replace hx137_1 := (HB.out.cell (World.block_lt_of_cell? w _ hx137_1)).trans hx137_1
                     replace hx137_2 := (HB.out.cell (World.block_lt_of_cell? w _ hx137_2)).trans hx137_2
                     replace hx137_3 := (HB.out.cell (World.block_lt_of_cell? w _ hx137_3)).trans hx137_3
                     replace p137 := eq_true p137
                     replace q137 := eq_true q137
                     have p138 : 0 ≤ (((rd_T41 l1 x8_3).f1) : Int) := of_decide_eq_true (by first | (with_reducible assumption) | assumption)
                     have q138 : ((rd_T41 l1 x8_3).f1) < (x5_3.length : Int) := of_decide_eq_true (by first | (with_reducible assumption) | assumption)
                     obtain ⟨ad138, e138, hx138_0⟩ := Kd.at_int (Kd.R_reads' HO_5.out).2.2 ((rd_T41 l1 x8_3).f1) p138 q138
                     obtain rfl : ad136 = ad138 := (by injection e138)
                     replace p138 := eq_true p138
                     replace q138 := eq_true q138
                     have p141 : 0 ≤ (x8_3 : Int) := of_decide_eq_true (by first | (with_reducible assumption) | assumption)
                     have q141 : x8_3 < (l1.length : Int) := of_decide_eq_true (by first | (with_reducible assumption) | assumption)
                     obtain ⟨ad141, e141, hx141_0, hx141_1, hx141_2, hx141_3⟩ := at_T41 HR1.out x8_3 p141 q141
                     obtain rfl : ad134 = ad141 := (by injection e141)
                     replace hx141_0 := (HB.out.cell (World.block_lt_of_cell? w _ hx141_0)).trans hx141_0
                     replace hx141_1 := (HB.out.cell (World.block_lt_of_cell? w _ hx141_1)).trans hx141_1
                     replace hx141_2 := (HB.out.cell (World.block_lt_of_cell? w _ hx141_2)).trans hx141_2
                     replace hx141_3 := (HB.out.cell (World.block_lt_of_cell? w _ hx141_3)).trans hx141_3
                     replace p141 := eq_true p141
                     replace q141 := eq_true q141
                     have p142 : 0 ≤ (((rd_T41 l1 x8_3).f1) : Int) := of_decide_eq_true (by first | (with_reducible assumption) | assumption)
                     have q142 : ((rd_T41 l1 x8_3).f1) < (x5_3.length : Int) := of_decide_eq_true (by first | (with_reducible assumption) | assumption)
                     obtain ⟨ad142, e142, hx142_0⟩ := Kd.at_int (Kd.R_reads' HO_5.out).2.2 ((rd_T41 l1 x8_3).f1) p142 q142
                     obtain rfl : ad136 = ad142 := (by injection e142)
                     replace p142 := eq_true p142
                     replace q142 := eq_true q142
                     have p143 : 0 ≤ (x8_3 : Int) := of_decide_eq_true (by first | (with_reducible assumption) | assumption)
                     have q143 : x8_3 < (l1.length : Int) := of_decide_eq_true (by first | (with_reducible assumption) | assumption)
                     obtain ⟨ad143, e143, hx143_0, hx143_1, hx143_2, hx143_3⟩ := at_T41 HR1.out x8_3 p143 q143
                     obtain rfl : ad134 = ad143 := (by injection e143)
                     replace hx143_0 := (HB.out.cell (World.block_lt_of_cell? w _ hx143_0)).trans hx143_0
                     replace hx143_1 := (HB.out.cell (World.block_lt_of_cell? w _ hx143_1)).trans hx143_1
                     replace hx143_2 := (HB.out.cell (World.block_lt_of_cell? w _ hx143_2)).trans hx143_2
                     replace hx143_3 := (HB.out.cell (World.block_lt_of_cell? w _ hx143_3)).trans hx143_3
                     replace p143 := eq_true p143
                     replace q143 := eq_true q143
                     have p28 : 0 ≤ (((rd_T41 l1 x8_3).f1) : Int) := of_decide_eq_true (by first | (with_reducible assumption) | assumption)
                     have q28 : (((rd_T41 l1 x8_3).f1) : Int) < ((x5_3.length : Int) : Int) := of_decide_eq_true (by first | (with_reducible assumption) | assumption)
                     obtain ⟨go28, co28, eo28, gb28, gl28, cl28, HG28⟩ := Kd.R_form HO_5.out (by omega)
                     (first | cases eo28 | (injection eo28 with ea_ en_ ec_; (first | subst ea_ | (injection ea_ with ea_; subst ea_)); subst ec_; clear en_))
                     have GB28 := Aside0.mk gb28
                     have GG28 := Aside0.mk HG28
                     clear gb28 gl28 HG28
                     (first | simp only [add_plain] at hx136_0 | skip)
                     (first | simp only [add_plain] at hx138_0 | skip)
                     (first | simp only [add_plain] at hx142_0 | skip)
                     obtain ⟨hx28_0, hf28_0⟩ := Kd.R_celln 0 HO_5.out (((rd_T41 l1 x8_3).f1) : Int) p28 q28
                     replace p28 := eq_true p28
                     replace q28 := eq_true q28
                     have HP30 := Kd.R_putg HO_5.out (((rd_T41 l1 x8_3).f1) : Int) (wrap64 ((rd x5_3 ((rd_T41 l1 x8_3).f0)) + 1))
                     go_wp2_with (first | ((with_reducible refine gate_store (t := 3) (p := 75) rfl ?_); refine store_event (t := 3) (p := 75) (v := ?vo_w31) (w1 := (wr.setCell ⟨go28, (((rd_T41 l1 x8_3).f1) : Int).toNat, none⟩ (.int .i64 (wrap64 ((rd x5_3 ((rd_T41 l1 x8_3).f0)) + 1))))) ?hg ?ho ?hn ?hr ?_; (case ho => rfl); (case hg => rfl); (case hn => rfl); (case hr => first | (go_simp; done) | (go_simp; rfl)); intro w31 hw; have hg : wr.grownBy w31 (some go28) := (by rw [hw]; exact HP30.2); have hp_ : Kd.R (Kd.int .i64) 3 w31 w.heap.size (fun _ => True) (.slice (some ⟨go28, 0, none⟩) x5_3.length co29) y144 := (by rw [hw, Ny144.out]; exact HP30.1); clear HP30; have n0_ := Aside0.mk (hp_); have n1_ := Aside0.mk ((by rw [hw]; exact below_set (HB.out) GB28.out : Below w.heap.size w w31)); clear HO_5; clear HB; have HO_5 := n0_; have HB := n1_; clear n0_ n1_; clear hg hw hp_))
                     go_roundg k3
                     case measure => have := HK1.out; have := HK2.out; have := HK3.out; omega
                     case rel => exact ⟨(y144), (true), (wrap64 (x8_3 + 1)), (by first | rfl | (simp; done) | (simp [*]; done)), (by first | rfl | (simp; done) | (simp [*]; done)), H', ⟨by have := HK1.out; have := HK2.out; have := HK3.out; omega⟩, ⟨pxr HO_5⟩, ⟨pxb HB⟩⟩
                    ·rw [if_neg c27] at H
                     have c27b0 : decide ((wrap64 ((rd x5_3 ((rd_T41 l1 x8_3).f0)) + 1)) < (rd x5_3 ((rd_T41 l1 x8_3).f1))) = false := decide_eq_false c27
                     clear c27
                     have H' := Aside0.mk H
                     clear H
                     have p134 : 0 ≤ (x8_3 : Int) := of_decide_eq_true (by first | (with_reducible assumption) | assumption)
                     have q134 : x8_3 < (l1.length : Int) := of_decide_eq_true (by first | (with_reducible assumption) | assumption)
                     obtain ⟨ad134, e134, hx134_0, hx134_1, hx134_2, hx134_3⟩ := at_T41 HR1.out x8_3 p134 q134
                     cases e134
                     replace hx134_0 := (HB.out.cell (World.block_lt_of_cell? w _ hx134_0)).trans hx134_0
                     replace hx134_1 := (HB.out.cell (World.block_lt_of_cell? w _ hx134_1)).trans hx134_1
                     replace hx134_2 := (HB.out.cell (World.block_lt_of_cell? w _ hx134_2)).trans hx134_2
                     replace hx134_3 := (HB.out.cell (World.block_lt_of_cell? w _ hx134_3)).trans hx134_3
                     replace p134 := eq_true p134
                     replace q134 := eq_true q134
                     have p135 : 0 ≤ (x8_3 : Int) := of_decide_eq_true (by first | (with_reducible assumption) | assumption)
                     have q135 : x8_3 < (l1.length : Int) := of_decide_eq_true (by first | (with_reducible assumption) | assumption)
                     obtain ⟨ad135, e135, hx135_0, hx135_1, hx135_2, hx135_3⟩ := at_T41 HR1.out x8_3 p135 q135
                     obtain rfl : ad134 = ad135 := (by injection e135)
                     replace hx135_0 := (HB.out.cell (World.block_lt_of_cell? w _ hx135_0)).trans hx135_0
                     replace hx135_1 := (HB.out.cell (World.block_lt_of_cell? w _ hx135_1)).trans hx135_1
                     replace hx135_2 := (HB.out.cell (World.block_lt_of_cell? w _ hx135_2)).trans hx135_2
                     replace hx135_3 := (HB.out.cell (World.block_lt_of_cell? w _ hx135_3)).trans hx135_3
                     replace p135 := eq_true p135
                     replace q135 := eq_true q135
                     obtain ⟨Ao32, co32, eo32⟩ := Kd.R_slice HO_5.out
                     subst eo32
                     have p136 : 0 ≤ (((rd_T41 l1 x8_3).f0) : Int) := of_decide_eq_true (by first | (with_reducible assumption) | assumption)
                     have q136 : ((rd_T41 l1 x8_3).f0) < (x5_3.length : Int) := of_decide_eq_true (by first | (with_reducible assumption) | assumption)
                     obtain ⟨ad136, e136, hx136_0⟩ := Kd.at_int (Kd.R_reads' HO_5.out).2.2 ((rd_T41 l1 x8_3).f0) p136 q136
                     cases e136
                     replace p136 := eq_true p136
                     replace q136 := eq_true q136
                     have p137 : 0 ≤ (x8_3 : Int) := of_decide_eq_true (by first | (with_reducible assumption) | assumption)
                     have q137 : x8_3 < (l1.length : Int) := of_decide_eq_true (by first | (with_reducible assumption) | assumption)
                     obtain ⟨ad137, e137, hx137_0, hx137_1, hx137_2, hx137_3⟩ := at_T41 HR1.out x8_3 p137 q137
                     obtain rfl : ad134 = ad137 := (by injection e137)
                     replace hx137_0 := (HB.out.cell (World.block_lt_of_cell? w _ hx137_0)).trans hx137_0
                     replace hx137_1 := (HB.out.cell (World.block_lt_of_cell? w _ hx137_1)).trans hx137_1
                     replace hx137_2 := (HB.out.cell (World.block_lt_of_cell? w _ hx137_2)).trans hx137_2
                     replace hx137_3 := (HB.out.cell (World.block_lt_of_cell? w _ hx137_3)).trans hx137_3
                     replace p137 := eq_true p137
                     replace q137 := eq_true q137
                     have p138 : 0 ≤ (((rd_T41 l1 x8_3).f1) : Int) := of_decide_eq_true (by first | (with_reducible assumption) | assumption)
                     have q138 : ((rd_T41 l1 x8_3).f1) < (x5_3.length : Int) := of_decide_eq_true (by first | (with_reducible assumption) | assumption)
                     obtain ⟨ad138, e138, hx138_0⟩ := Kd.at_int (Kd.R_reads' HO_5.out).2.2 ((rd_T41 l1 x8_3).f1) p138 q138
                     obtain rfl : ad136 = ad138 := (by injection e138)
                     replace p138 := eq_true p138
                     replace q138 := eq_true q138
                     have p141 : 0 ≤ (x8_3 : Int) := of_decide_eq_true (by first | (with_reducible assumption) | assumption)
                     have q141 : x8_3 < (l1.length : Int) := of_decide_eq_true (by first | (with_reducible assumption) | assumption)
                     obtain ⟨ad141, e141, hx141_0, hx141_1, hx141_2, hx141_3⟩ := at_T41 HR1.out x8_3 p141 q141
                     obtain rfl : ad134 = ad141 := (by injection e141)
                     replace hx141_0 := (HB.out.cell (World.block_lt_of_cell? w _ hx141_0)).trans hx141_0
                     replace hx141_1 := (HB.out.cell (World.block_lt_of_cell? w _ hx141_1)).trans hx141_1
                     replace hx141_2 := (HB.out.cell (World.block_lt_of_cell? w _ hx141_2)).trans hx141_2
                     replace hx141_3 := (HB.out.cell (World.block_lt_of_cell? w _ hx141_3)).trans hx141_3
                     replace p141 := eq_true p141
                     replace q141 := eq_true q141
                     have p142 : 0 ≤ (((rd_T41 l1 x8_3).f1) : Int) := of_decide_eq_true (by first | (with_reducible assumption) | assumption)
                     have q142 : ((rd_T41 l1 x8_3).f1) < (x5_3.length : Int) := of_decide_eq_true (by first | (with_reducible assumption) | assumption)
                     obtain ⟨ad142, e142, hx142_0⟩ := Kd.at_int (Kd.R_reads' HO_5.out).2.2 ((rd_T41 l1 x8_3).f1) p142 q142
                     obtain rfl : ad136 = ad142 := (by injection e142)
                     replace p142 := eq_true p142
                     replace q142 := eq_true q142
                     go_wp2
                     go_roundg k3
                     case measure => have := HK1.out; have := HK2.out; have := HK3.out; omega
                     case rel => exact ⟨(x5_3), (x7_3), (wrap64 (x8_3 + 1)), (by first | rfl | (simp; done) | (simp [*]; done)), (by first | rfl | (simp; done) | (simp [*]; done)), H', ⟨by have := HK1.out; have := HK2.out; have := HK3.out; omega⟩, ⟨pxr HO_5⟩, ⟨pxb HB⟩⟩
                  ·rw [if_neg c21] at H
                   exact absurd H (by simp)
                 ·rw [if_neg c20] at H
                  exact absurd H (by simp)
                ·rw [if_neg c19] at H
                 have c19b0 : decide (0 ≤ (rd x5_3 ((rd_T41 l1 x8_3).f0))) = false := decide_eq_false c19
                 clear c19
                 have H' := Aside0.mk H
                 clear H
                 have p134 : 0 ≤ (x8_3 : Int) := of_decide_eq_true (by first | (with_reducible assumption) | assumption)
                 have q134 : x8_3 < (l1.length : Int) := of_decide_eq_true (by first | (with_reducible assumption) | assumption)
                 obtain ⟨ad134, e134, hx134_0, hx134_1, hx134_2, hx134_3⟩ := at_T41 HR1.out x8_3 p134 q134
                 cases e134
                 replace hx134_0 := (HB.out.cell (World.block_lt_of_cell? w _ hx134_0)).trans hx134_0
                 replace hx134_1 := (HB.out.cell (World.block_lt_of_cell? w _ hx134_1)).trans hx134_1
                 replace hx134_2 := (HB.out.cell (World.block_lt_of_cell? w _ hx134_2)).trans hx134_2
                 replace hx134_3 := (HB.out.cell (World.block_lt_of_cell? w _ hx134_3)).trans hx134_3
                 replace p134 := eq_true p134
                 replace q134 := eq_true q134
                 have p135 : 0 ≤ (x8_3 : Int) := of_decide_eq_true (by first | (with_reducible assumption) | assumption)
                 have q135 : x8_3 < (l1.length : Int) := of_decide_eq_true (by first | (with_reducible assumption) | assumption)
                 obtain ⟨ad135, e135, hx135_0, hx135_1, hx135_2, hx135_3⟩ := at_T41 HR1.out x8_3 p135 q135
                 obtain rfl : ad134 = ad135 := (by injection e135)
                 replace hx135_0 := (HB.out.cell (World.block_lt_of_cell? w _ hx135_0)).trans hx135_0
                 replace hx135_1 := (HB.out.cell (World.block_lt_of_cell? w _ hx135_1)).trans hx135_1
                 replace hx135_2 := (HB.out.cell (World.block_lt_of_cell? w _ hx135_2)).trans hx135_2
                 replace hx135_3 := (HB.out.cell (World.block_lt_of_cell? w _ hx135_3)).trans hx135_3
                 replace p135 := eq_true p135
                 replace q135 := eq_true q135
                 obtain ⟨Ao33, co33, eo33⟩ := Kd.R_slice HO_5.out
                 subst eo33
                 have p136 : 0 ≤ (((rd_T41 l1 x8_3).f0) : Int) := of_decide_eq_true (by first | (with_reducible assumption) | assumption)
                 have q136 : ((rd_T41 l1 x8_3).f0) < (x5_3.length : Int) := of_decide_eq_true (by first | (with_reducible assumption) | assumption)
                 obtain ⟨ad136, e136, hx136_0⟩ := Kd.at_int (Kd.R_reads' HO_5.out).2.2 ((rd_T41 l1 x8_3).f0) p136 q136
                 cases e136
                 replace p136 := eq_true p136
                 replace q136 := eq_true q136
                 go_wp2
                 go_roundg k3
                 case measure => have := HK1.out; have := HK2.out; have := HK3.out; omega
                 case rel => exact ⟨(x5_3), (x7_3), (wrap64 (x8_3 + 1)), (by first | rfl | (simp; done) | (simp [*]; done)), (by first | rfl | (simp; done) | (simp [*]; done)), H', ⟨by have := HK1.out; have := HK2.out; have := HK3.out; omega⟩, ⟨pxr HO_5⟩, ⟨pxb HB⟩⟩
               ·rw [if_neg c18] at H
                exact absurd H (by simp)
              ·rw [if_neg c17] at H
               exact absurd H (by simp)
             ·rw [if_neg c16] at H
              have c16b0 : decide (0 ≤ ((rd_T41 l1 x8_3).f0)) = false := decide_eq_false c16
              clear c16
              by_cases c34 : 0 ≥ 0
              ·rw [if_pos c34] at H
               have c34b0 : decide (0 ≤ 0) = true := decide_eq_true c34
               clear c34
               by_cases c35 : 0 ≤ ((rd_T41 l1 x8_3).f1)
               ·rw [if_pos c35] at H
                have c35b0 : decide (0 ≤ ((rd_T41 l1 x8_3).f1)) = true := decide_eq_true c35
                clear c35
                by_cases c36 : ((rd_T41 l1 x8_3).f1) < (x5_3.length : Int)
                ·rw [if_pos c36] at H
                 have c36b0 : decide (((rd_T41 l1 x8_3).f1) < (x5_3.length : Int)) = true := decide_eq_true c36
                 clear c36
                 by_cases c37 : (rd x5_3 ((rd_T41 l1 x8_3).f1)) < 0
                 ·rw [if_pos c37] at H
                  have c37b0 : decide ((rd x5_3 ((rd_T41 l1 x8_3).f1)) < 0) = true := decide_eq_true c37
                  clear c37
                  obtain ⟨y148, hy148⟩ : ∃ y_ : List Int, y_ = (x5_3.set (((rd_T41 l1 x8_3).f1) : Int).toNat 1) := ⟨_, rfl⟩
                  replace H : (caulkerref21_Far.l2 k3 l1 y148 true (wrap64 (x8_3 + 1))) = some r := by first | (rw [hy148]; with_reducible exact H) | (have H2_ := (Option.bind_some _ _).symm.trans H; rw [hy148]; with_reducible exact H2_) | (have H2_ := (Option.bind_some _ _).symm.trans H; with_reducible exact H2_) | with_reducible exact H | (rw [hy148]; exact H) | exact H
                  have Ny148 := Aside0.mk hy148
                  clear hy148
                  have H' := Aside0.mk H
                  clear H
                  have p134 : 0 ≤ (x8_3 : Int) := of_decide_eq_true (by first | (with_reducible assumption) | assumption)
                  have q134 : x8_3 < (l1.length : Int) := of_decide_eq_true (by first | (with_reducible assumption) | assumption)
                  obtain ⟨ad134, e134, hx134_0, hx134_1, hx134_2, hx134_3⟩ := at_T41 HR1.out x8_3 p134 q134
                  cases e134
                  replace hx134_0 := (HB.out.cell (World.block_lt_of_cell? w _ hx134_0)).trans hx134_0
                  replace hx134_1 := (HB.out.cell (World.block_lt_of_cell? w _ hx134_1)).trans hx134_1
                  replace hx134_2 := (HB.out.cell (World.block_lt_of_cell? w _ hx134_2)).trans hx134_2
                  replace hx134_3 := (HB.out.cell (World.block_lt_of_cell? w _ hx134_3)).trans hx134_3
                  replace p134 := eq_true p134
                  replace q134 := eq_true q134
                  have p145 : 0 ≤ (x8_3 : Int) := of_decide_eq_true (by first | (with_reducible assumption) | assumption)
                  have q145 : x8_3 < (l1.length : Int) := of_decide_eq_true (by first | (with_reducible assumption) | assumption)
                  obtain ⟨ad145, e145, hx145_0, hx145_1, hx145_2, hx145_3⟩ := at_T41 HR1.out x8_3 p145 q145
                  obtain rfl : ad134 = ad145 := (by injection e145)
                  replace hx145_0 := (HB.out.cell (World.block_lt_of_cell? w _ hx145_0)).trans hx145_0
                  replace hx145_1 := (HB.out.cell (World.block_lt_of_cell? w _ hx145_1)).trans hx145_1
                  replace hx145_2 := (HB.out.cell (World.block_lt_of_cell? w _ hx145_2)).trans hx145_2
                  replace hx145_3 := (HB.out.cell (World.block_lt_of_cell? w _ hx145_3)).trans hx145_3
                  replace p145 := eq_true p145
                  replace q145 := eq_true q145
                  obtain ⟨Ao39, co39, eo39⟩ := Kd.R_slice HO_5.out
                  subst eo39
                  have p146 : 0 ≤ (((rd_T41 l1 x8_3).f1) : Int) := of_decide_eq_true (by first | (with_reducible assumption) | assumption)
                  have q146 : ((rd_T41 l1 x8_3).f1) < (x5_3.length : Int) := of_decide_eq_true (by first | (with_reducible assumption) | assumption)
                  obtain ⟨ad146, e146, hx146_0⟩ := Kd.at_int (Kd.R_reads' HO_5.out).2.2 ((rd_T41 l1 x8_3).f1) p146 q146
                  cases e146
                  replace p146 := eq_true p146
                  replace q146 := eq_true q146
                  have p147 : 0 ≤ (x8_3 : Int) := of_decide_eq_true (by first | (with_reducible assumption) | assumption)
                  have q147 : x8_3 < (l1.length : Int) := of_decide_eq_true (by first | (with_reducible assumption) | assumption)
                  obtain ⟨ad147, e147, hx147_0, hx147_1, hx147_2, hx147_3⟩ := at_T41 HR1.out x8_3 p147 q147
                  obtain rfl : ad134 = ad147 := (by injection e147)
                  replace hx147_0 := (HB.out.cell (World.block_lt_of_cell? w _ hx147_0)).trans hx147_0
                  replace hx147_1 := (HB.out.cell (World.block_lt_of_cell? w _ hx147_1)).trans hx147_1
                  replace hx147_2 := (HB.out.cell (World.block_lt_of_cell? w _ hx147_2)).trans hx147_2
                  replace hx147_3 := (HB.out.cell (World.block_lt_of_cell? w _ hx147_3)).trans hx147_3
                  replace p147 := eq_true p147
                  replace q147 := eq_true q147
                  have p38 : 0 ≤ (((rd_T41 l1 x8_3).f1) : Int) := of_decide_eq_true (by first | (with_reducible assumption) | assumption)
                  have q38 : (((rd_T41 l1 x8_3).f1) : Int) < ((x5_3.length : Int) : Int) := of_decide_eq_true (by first | (with_reducible assumption) | assumption)
                  obtain ⟨go38, co38, eo38, gb38, gl38, cl38, HG38⟩ := Kd.R_form HO_5.out (by omega)
                  (first | cases eo38 | (injection eo38 with ea_ en_ ec_; (first | subst ea_ | (injection ea_ with ea_; subst ea_)); subst ec_; clear en_))
                  have GB38 := Aside0.mk gb38
                  have GG38 := Aside0.mk HG38
                  clear gb38 gl38 HG38
                  (first | simp only [add_plain] at hx146_0 | skip)
                  obtain ⟨hx38_0, hf38_0⟩ := Kd.R_celln 0 HO_5.out (((rd_T41 l1 x8_3).f1) : Int) p38 q38
                  replace p38 := eq_true p38
                  replace q38 := eq_true q38
                  have HP40 := Kd.R_putg HO_5.out (((rd_T41 l1 x8_3).f1) : Int) 1
                  go_wp2_with (first | ((with_reducible refine gate_store (t := 3) (p := 75) rfl ?_); refine store_event (t := 3) (p := 75) (v := ?vo_w41) (w1 := (wr.setCell ⟨go38, (((rd_T41 l1 x8_3).f1) : Int).toNat, none⟩ (.int .i64 1))) ?hg ?ho ?hn ?hr ?_; (case ho => rfl); (case hg => rfl); (case hn => rfl); (case hr => first | (go_simp; done) | (go_simp; rfl)); intro w41 hw; have hg : wr.grownBy w41 (some go38) := (by rw [hw]; exact HP40.2); have hp_ : Kd.R (Kd.int .i64) 3 w41 w.heap.size (fun _ => True) (.slice (some ⟨go38, 0, none⟩) x5_3.length co39) y148 := (by rw [hw, Ny148.out]; exact HP40.1); clear HP40; have n0_ := Aside0.mk (hp_); have n1_ := Aside0.mk ((by rw [hw]; exact below_set (HB.out) GB38.out : Below w.heap.size w w41)); clear HO_5; clear HB; have HO_5 := n0_; have HB := n1_; clear n0_ n1_; clear hg hw hp_))
                  go_roundg k3
                  case measure => have := HK1.out; have := HK2.out; have := HK3.out; omega
                  case rel => exact ⟨(y148), (true), (wrap64 (x8_3 + 1)), (by first | rfl | (simp; done) | (simp [*]; done)), (by first | rfl | (simp; done) | (simp [*]; done)), H', ⟨by have := HK1.out; have := HK2.out; have := HK3.out; omega⟩, ⟨pxr HO_5⟩, ⟨pxb HB⟩⟩
                 ·rw [if_neg c37] at H
                  have c37b0 : decide ((rd x5_3 ((rd_T41 l1 x8_3).f1)) < 0) = false := decide_eq_false c37
                  clear c37
                  by_cases c42 : (rd x5_3 ((rd_T41 l1 x8_3).f1)) > 1
                  ·rw [if_pos c42] at H
                   have c42b0 : decide (1 < (rd x5_3 ((rd_T41 l1 x8_3).f1))) = true := decide_eq_true c42
                   clear c42
                   obtain ⟨y152, hy152⟩ : ∃ y_ : List Int, y_ = (x5_3.set (((rd_T41 l1 x8_3).f1) : Int).toNat 1) := ⟨_, rfl⟩
                   replace H : (caulkerref21_Far.l2 k3 l1 y152 true (wrap64 (x8_3 + 1))) = some r := by first | (rw [hy152]; with_reducible exact H) | (have H2_ := (Option.bind_some _ _).symm.trans H; rw [hy152]; with_reducible exact H2_) | (have H2_ := (Option.bind_some _ _).symm.trans H; with_reducible exact H2_) | with_reducible exact H | (rw [hy152]; exact H) | exact H
                   have Ny152 := Aside0.mk hy152
                   clear hy152
                   have H' := Aside0.mk H
                   clear H
                   have p134 : 0 ≤ (x8_3 : Int) := of_decide_eq_true (by first | (with_reducible assumption) | assumption)
                   have q134 : x8_3 < (l1.length : Int) := of_decide_eq_true (by first | (with_reducible assumption) | assumption)
                   obtain ⟨ad134, e134, hx134_0, hx134_1, hx134_2, hx134_3⟩ := at_T41 HR1.out x8_3 p134 q134
                   cases e134
                   replace hx134_0 := (HB.out.cell (World.block_lt_of_cell? w _ hx134_0)).trans hx134_0
                   replace hx134_1 := (HB.out.cell (World.block_lt_of_cell? w _ hx134_1)).trans hx134_1
                   replace hx134_2 := (HB.out.cell (World.block_lt_of_cell? w _ hx134_2)).trans hx134_2
                   replace hx134_3 := (HB.out.cell (World.block_lt_of_cell? w _ hx134_3)).trans hx134_3
                   replace p134 := eq_true p134
                   replace q134 := eq_true q134
                   have p145 : 0 ≤ (x8_3 : Int) := of_decide_eq_true (by first | (with_reducible assumption) | assumption)
                   have q145 : x8_3 < (l1.length : Int) := of_decide_eq_true (by first | (with_reducible assumption) | assumption)
                   obtain ⟨ad145, e145, hx145_0, hx145_1, hx145_2, hx145_3⟩ := at_T41 HR1.out x8_3 p145 q145
                   obtain rfl : ad134 = ad145 := (by injection e145)
                   replace hx145_0 := (HB.out.cell (World.block_lt_of_cell? w _ hx145_0)).trans hx145_0
                   replace hx145_1 := (HB.out.cell (World.block_lt_of_cell? w _ hx145_1)).trans hx145_1
                   replace hx145_2 := (HB.out.cell (World.block_lt_of_cell? w _ hx145_2)).trans hx145_2
                   replace hx145_3 := (HB.out.cell (World.block_lt_of_cell? w _ hx145_3)).trans hx145_3
                   replace p145 := eq_true p145
                   replace q145 := eq_true q145
                   obtain ⟨Ao44, co44, eo44⟩ := Kd.R_slice HO_5.out
                   subst eo44
                   have p146 : 0 ≤ (((rd_T41 l1 x8_3).f1) : Int) := of_decide_eq_true (by first | (with_reducible assumption) | assumption)
                   have q146 : ((rd_T41 l1 x8_3).f1) < (x5_3.length : Int) := of_decide_eq_true (by first | (with_reducible assumption) | assumption)
                   obtain ⟨ad146, e146, hx146_0⟩ := Kd.at_int (Kd.R_reads' HO_5.out).2.2 ((rd_T41 l1 x8_3).f1) p146 q146
                   cases e146
                   replace p146 := eq_true p146
                   replace q146 := eq_true q146
                   have p149 : 0 ≤ (x8_3 : Int) := of_decide_eq_true (by first | (with_reducible assumption) | assumption)
                   have q149 : x8_3 < (l1.length : Int) := of_decide_eq_true (by first | (with_reducible assumption) | assumption)
                   obtain ⟨ad149, e149, hx149_0, hx149_1, hx149_2, hx149_3⟩ := at_T41 HR1.out x8_3 p149 q149
                   obtain rfl : ad134 = ad149 := (by injection e149)
                   replace hx149_0 := (HB.out.cell (World.block_lt_of_cell? w _ hx149_0)).trans hx149_0
                   replace hx149_1 := (HB.out.cell (World.block_lt_of_cell? w _ hx149_1)).trans hx149_1
                   replace hx149_2 := (HB.out.cell (World.block_lt_of_cell? w _ hx149_2)).trans hx149_2
                   replace hx149_3 := (HB.out.cell (World.block_lt_of_cell? w _ hx149_3)).trans hx149_3
                   replace p149 := eq_true p149
                   replace q149 := eq_true q149
                   have p150 : 0 ≤ (((rd_T41 l1 x8_3).f1) : Int) := of_decide_eq_true (by first | (with_reducible assumption) | assumption)
                   have q150 : ((rd_T41 l1 x8_3).f1) < (x5_3.length : Int) := of_decide_eq_true (by first | (with_reducible assumption) | assumption)
                   obtain ⟨ad150, e150, hx150_0⟩ := Kd.at_int (Kd.R_reads' HO_5.out).2.2 ((rd_T41 l1 x8_3).f1) p150 q150
                   obtain rfl : ad146 = ad150 := (by injection e150)
                   replace p150 := eq_true p150
                   replace q150 := eq_true q150
                   have p151 : 0 ≤ (x8_3 : Int) := of_decide_eq_true (by first | (with_reducible assumption) | assumption)
                   have q151 : x8_3 < (l1.length : Int) := of_decide_eq_true (by first | (with_reducible assumption) | assumption)
                   obtain ⟨ad151, e151, hx151_0, hx151_1, hx151_2, hx151_3⟩ := at_T41 HR1.out x8_3 p151 q151
                   obtain rfl : ad134 = ad151 := (by injection e151)
                   replace hx151_0 := (HB.out.cell (World.block_lt_of_cell? w _ hx151_0)).trans hx151_0
                   replace hx151_1 := (HB.out.cell (World.block_lt_of_cell? w _ hx151_1)).trans hx151_1
                   replace hx151_2 := (HB.out.cell (World.block_lt_of_cell? w _ hx151_2)).trans hx151_2
                   replace hx151_3 := (HB.out.cell (World.block_lt_of_cell? w _ hx151_3)).trans hx151_3
                   replace p151 := eq_true p151
                   replace q151 := eq_true q151
                   have p43 : 0 ≤ (((rd_T41 l1 x8_3).f1) : Int) := of_decide_eq_true (by first | (with_reducible assumption) | assumption)
                   have q43 : (((rd_T41 l1 x8_3).f1) : Int) < ((x5_3.length : Int) : Int) := of_decide_eq_true (by first | (with_reducible assumption) | assumption)
                   obtain ⟨go43, co43, eo43, gb43, gl43, cl43, HG43⟩ := Kd.R_form HO_5.out (by omega)
                   (first | cases eo43 | (injection eo43 with ea_ en_ ec_; (first | subst ea_ | (injection ea_ with ea_; subst ea_)); subst ec_; clear en_))
                   have GB43 := Aside0.mk gb43
                   have GG43 := Aside0.mk HG43
                   clear gb43 gl43 HG43
                   (first | simp only [add_plain] at hx146_0 | skip)
                   (first | simp only [add_plain] at hx150_0 | skip)
                   obtain ⟨hx43_0, hf43_0⟩ := Kd.R_celln 0 HO_5.out (((rd_T41 l1 x8_3).f1) : Int) p43 q43
                   replace p43 := eq_true p43
                   replace q43 := eq_true q43
                   have HP45 := Kd.R_putg HO_5.out (((rd_T41 l1 x8_3).f1) : Int) 1
                   go_wp2_with (first | ((with_reducible refine gate_store (t := 3) (p := 75) rfl ?_); refine store_event (t := 3) (p := 75) (v := ?vo_w46) (w1 := (wr.setCell ⟨go43, (((rd_T41 l1 x8_3).f1) : Int).toNat, none⟩ (.int .i64 1))) ?hg ?ho ?hn ?hr ?_; (case ho => rfl); (case hg => rfl); (case hn => rfl); (case hr => first | (go_simp; done) | (go_simp; rfl)); intro w46 hw; have hg : wr.grownBy w46 (some go43) := (by rw [hw]; exact HP45.2); have hp_ : Kd.R (Kd.int .i64) 3 w46 w.heap.size (fun _ => True) (.slice (some ⟨go43, 0, none⟩) x5_3.length co44) y152 := (by rw [hw, Ny152.out]; exact HP45.1); clear HP45; have n0_ := Aside0.mk (hp_); have n1_ := Aside0.mk ((by rw [hw]; exact below_set (HB.out) GB43.out : Below w.heap.size w w46)); clear HO_5; clear HB; have HO_5 := n0_; have HB := n1_; clear n0_ n1_; clear hg hw hp_))
                   go_roundg k3
                   case measure => have := HK1.out; have := HK2.out; have := HK3.out; omega
                   case rel => exact ⟨(y152), (true), (wrap64 (x8_3 + 1)), (by first | rfl | (simp; done) | (simp [*]; done)), (by first | rfl | (simp; done) | (simp [*]; done)), H', ⟨by have := HK1.out; have := HK2.out; have := HK3.out; omega⟩, ⟨pxr HO_5⟩, ⟨pxb HB⟩⟩
                  ·rw [if_neg c42] at H
                   have c42b0 : decide (1 < (rd x5_3 ((rd_T41 l1 x8_3).f1))) = false := decide_eq_false c42
                   clear c42
                   have H' := Aside0.mk H
                   clear H
                   have p134 : 0 ≤ (x8_3 : Int) := of_decide_eq_true (by first | (with_reducible assumption) | assumption)
                   have q134 : x8_3 < (l1.length : Int) := of_decide_eq_true (by first | (with_reducible assumption) | assumption)
                   obtain ⟨ad134, e134, hx134_0, hx134_1, hx134_2, hx134_3⟩ := at_T41 HR1.out x8_3 p134 q134
                   cases e134
                   replace hx134_0 := (HB.out.cell (World.block_lt_of_cell? w _ hx134_0)).trans hx134_0
                   replace hx134_1 := (HB.out.cell (World.block_lt_of_cell? w _ hx134_1)).trans hx134_1
                   replace hx134_2 := (HB.out.cell (World.block_lt_of_cell? w _ hx134_2)).trans hx134_2
                   replace hx134_3 := (HB.out.cell (World.block_lt_of_cell? w _ hx134_3)).trans hx134_3
                   replace p134 := eq_true p134
                   replace q134 := eq_true q134
                   have p145 : 0 ≤ (x8_3 : Int) := of_decide_eq_true (by first | (with_reducible assumption) | assumption)
                   have q145 : x8_3 < (l1.length : Int) := of_decide_eq_true (by first | (with_reducible assumption) | assumption)
                   obtain ⟨ad145, e145, hx145_0, hx145_1, hx145_2, hx145_3⟩ := at_T41 HR1.out x8_3 p145 q145
                   obtain rfl : ad134 = ad145 := (by injection e145)
                   replace hx145_0 := (HB.out.cell (World.block_lt_of_cell? w _ hx145_0)).trans hx145_0
                   replace hx145_1 := (HB.out.cell (World.block_lt_of_cell? w _ hx145_1)).trans hx145_1
                   replace hx145_2 := (HB.out.cell (World.block_lt_of_cell? w _ hx145_2)).trans hx145_2
                   replace hx145_3 := (HB.out.cell (World.block_lt_of_cell? w _ hx145_3)).trans hx145_3
                   replace p145 := eq_true p145
                   replace q145 := eq_true q145
                   obtain ⟨Ao47, co47, eo47⟩ := Kd.R_slice HO_5.out
                   subst eo47
                   have p146 : 0 ≤ (((rd_T41 l1 x8_3).f1) : Int) := of_decide_eq_true (by first | (with_reducible assumption) | assumption)
                   have q146 : ((rd_T41 l1 x8_3).f1) < (x5_3.length : Int) := of_decide_eq_true (by first | (with_reducible assumption) | assumption)
                   obtain ⟨ad146, e146, hx146_0⟩ := Kd.at_int (Kd.R_reads' HO_5.out).2.2 ((rd_T41 l1 x8_3).f1) p146 q146
                   cases e146
                   replace p146 := eq_true p146
                   replace q146 := eq_true q146
                   have p149 : 0 ≤ (x8_3 : Int) := of_decide_eq_true (by first | (with_reducible assumption) | assumption)
                   have q149 : x8_3 < (l1.length : Int) := of_decide_eq_true (by first | (with_reducible assumption) | assumption)
                   obtain ⟨ad149, e149, hx149_0, hx149_1, hx149_2, hx149_3⟩ := at_T41 HR1.out x8_3 p149 q149
                   obtain rfl : ad134 = ad149 := (by injection e149)
                   replace hx149_0 := (HB.out.cell (World.block_lt_of_cell? w _ hx149_0)).trans hx149_0
                   replace hx149_1 := (HB.out.cell (World.block_lt_of_cell? w _ hx149_1)).trans hx149_1
                   replace hx149_2 := (HB.out.cell (World.block_lt_of_cell? w _ hx149_2)).trans hx149_2
                   replace hx149_3 := (HB.out.cell (World.block_lt_of_cell? w _ hx149_3)).trans hx149_3
                   replace p149 := eq_true p149
                   replace q149 := eq_true q149
                   have p150 : 0 ≤ (((rd_T41 l1 x8_3).f1) : Int) := of_decide_eq_true (by first | (with_reducible assumption) | assumption)
                   have q150 : ((rd_T41 l1 x8_3).f1) < (x5_3.length : Int) := of_decide_eq_true (by first | (with_reducible assumption) | assumption)
                   obtain ⟨ad150, e150, hx150_0⟩ := Kd.at_int (Kd.R_reads' HO_5.out).2.2 ((rd_T41 l1 x8_3).f1) p150 q150
                   obtain rfl : ad146 = ad150 := (by injection e150)
                   replace p150 := eq_true p150
                   replace q150 := eq_true q150
                   go_wp2
                   go_roundg k3
                   case measure => have := HK1.out; have := HK2.out; have := HK3.out; omega
                   case rel => exact ⟨(x5_3), (x7_3), (wrap64 (x8_3 + 1)), (by first | rfl | (simp; done) | (simp [*]; done)), (by first | rfl | (simp; done) | (simp [*]; done)), H', ⟨by have := HK1.out; have := HK2.out; have := HK3.out; omega⟩, ⟨pxr HO_5⟩, ⟨pxb HB⟩⟩
                ·rw [if_neg c36] at H
                 exact absurd H (by simp)
               ·rw [if_neg c35] at H
                exact absurd H (by simp)
              ·exact absurd c34 (by omega)
            ·rw [if_neg c15] at H
             exact absurd H (by simp)
           ·rw [if_neg c14] at H
            have c14b0 : decide (x8_3 < (l1.length : Int)) = false := decide_eq_false c14
            clear c14
            have H' := Aside0.mk H
            clear H
            go_wp2
            go_roundg k3
            case measure => have := HK1.out; have := HK2.out; have := HK3.out; omega
            case rel => exact ⟨(x5_3), (x7_3), (by first | rfl | (simp; done) | (simp [*]; done)), H', ⟨by have := HK1.out; have := HK2.out; have := HK3.out; omega⟩, ⟨pxr HO_5⟩, ⟨pxb HB⟩⟩
        ·replace c13 := Bool.eq_false_iff.mpr c13
         subst c13
         have H1 : (some x5_2) = some r := by rw [if_neg (show ¬ (false = true) by decide)] at H; exact H
         clear H
         have H := H1
         clear H1
         obtain rfl := Option.some.inj H
         go_wp2
         go_ret
         exact ⟨_, by first | rfl | (simp [errW_none, errW_some] <;> rfl) | (simp [*, errW_none, errW_some] <;> rfl), pxr HO_5, pxb HB⟩
  ·rw [if_neg c4] at H
   exact absurd H (by simp)
 ·rw [if_neg c3] at H
  exact absurd H (by simp)

end Go.Proofs.Ytefgfnhhoidbdaa.X
