/- What the program's functions answer, as Lean functions, and that each call does just that; no condition. Written by a program (px.py) out of the translation. -/
import Derived.Test.YtlcblkjgkaiadaaX0
namespace Go.Proofs.Ytlcblkjgkaiadaa.X
open Go.RowKit Go.Proofs.YtlcblkjgkaiadaaW.PrintWords Go.Proofs.YtlcblkjgkaiadaaW.PrintLast Go.Proofs.YtlcblkjgkaiadaaW.PrintMore
attribute [local go_sem] max2_int min2_int max_two min_two max_three min_three max_four min_four   -- for this text's walks alone
set_option linter.unusedVariables false
set_option linter.unusedSimpArgs false

/-! ### caulkerref06_Between: function 10 -/
mutual
def caulkerref06_Between.l0 : Nat → ByteArray → Int → Option (Int)
 | 0, _, _ => none
 | k + 1, x0, x1 => if x1 < (x0.size : Int) then (if 0 ≤ x1 then (if (bt x0 x1) = 32 then (caulkerref06_Between.j1 k x0 x1 true) else (if (bt x0 x1) = 9 then (caulkerref06_Between.j1 k x0 x1 true) else (if (bt x0 x1) = 10 then (caulkerref06_Between.j1 k x0 x1 true) else (caulkerref06_Between.j1 k x0 x1 ((bt x0 x1) == 13))))) else (none)) else (some x1)
def caulkerref06_Between.j1 : Nat → ByteArray → Int → Bool → Option (Int)
 | 0, _, _, _ => none
 | k + 1, x0, x1, x30 => if x30 = true then (caulkerref06_Between.l0 k x0 (wrap64 (x1 + 1))) else (if (wrap64 (x1 + 1)) < (x0.size : Int) then (if 0 ≤ x1 then (if x1 < (x0.size : Int) then (if (bt x0 x1) = 47 then (if 0 ≤ (wrap64 (x1 + 1)) then (caulkerref06_Between.j2 k x0 x1 ((bt x0 (wrap64 (x1 + 1))) == 47)) else (none)) else (caulkerref06_Between.j2 k x0 x1 false)) else (none)) else (none)) else (caulkerref06_Between.j2 k x0 x1 false))
def caulkerref06_Between.j2 : Nat → ByteArray → Int → Bool → Option (Int)
 | 0, _, _, _ => none
 | k + 1, x0, x1, x50 => if x50 = true then (caulkerref06_Between.l1 k x0 x1) else (some x1)
def caulkerref06_Between.l1 : Nat → ByteArray → Int → Option (Int)
 | 0, _, _ => none
 | k + 1, x0, x1 => if x1 < (x0.size : Int) then (if 0 ≤ x1 then (if (bt x0 x1) = 10 then (caulkerref06_Between.l0 k x0 x1) else (caulkerref06_Between.l1 k x0 (wrap64 (x1 + 1)))) else (none)) else (caulkerref06_Between.l0 k x0 x1)
end
def caulkerref06_Between.f (k : Nat) (a0 : ByteArray) (a1 : Int) : Option (Int) := caulkerref06_Between.l0 k a0 a1
theorem caulkerref06_Between.mono_l : ∀ k, (∀ y0 y1, LeO (caulkerref06_Between.l0 k y0 y1) (caulkerref06_Between.l0 (k + 1) y0 y1)) ∧ (∀ y0 y1 y2, LeO (caulkerref06_Between.j1 k y0 y1 y2) (caulkerref06_Between.j1 (k + 1) y0 y1 y2)) ∧ (∀ y0 y1 y2, LeO (caulkerref06_Between.j2 k y0 y1 y2) (caulkerref06_Between.j2 (k + 1) y0 y1 y2)) ∧ (∀ y0 y1, LeO (caulkerref06_Between.l1 k y0 y1) (caulkerref06_Between.l1 (k + 1) y0 y1))
 | 0 => ⟨fun _ _ r h => by simp [caulkerref06_Between.l0] at h, fun _ _ _ r h => by simp [caulkerref06_Between.j1] at h, fun _ _ _ r h => by simp [caulkerref06_Between.j2] at h, fun _ _ r h => by simp [caulkerref06_Between.l1] at h⟩
 | k + 1 => by
  obtain ⟨ih0, ih1, ih2, ih3⟩ := caulkerref06_Between.mono_l k
  refine ⟨?_, ?_, ?_, ?_⟩
  ·intro y0 y1
   unfold caulkerref06_Between.l0
   repeat' first
   | (with_reducible exact ih0 _ _)
   | (with_reducible exact ih1 _ _ _)
   | (with_reducible exact ih2 _ _ _)
   | (with_reducible exact ih3 _ _)
   | (with_reducible exact LeO.refl _)
   | (with_reducible exact LeO.none _)
   | (with_reducible refine LeO.ite ?_ ?_)
   | (with_reducible refine LeO.bind ?_ (fun _ => ?_))
   | exact ih0 _ _
   | exact ih1 _ _ _
   | exact ih2 _ _ _
   | exact ih3 _ _
   | exact LeO.none _
   | refine LeO.ite ?_ ?_
   | refine LeO.bind ?_ (fun _ => ?_)
  ·intro y0 y1 y2
   unfold caulkerref06_Between.j1
   repeat' first
   | (with_reducible exact ih0 _ _)
   | (with_reducible exact ih1 _ _ _)
   | (with_reducible exact ih2 _ _ _)
   | (with_reducible exact ih3 _ _)
   | (with_reducible exact LeO.refl _)
   | (with_reducible exact LeO.none _)
   | (with_reducible refine LeO.ite ?_ ?_)
   | (with_reducible refine LeO.bind ?_ (fun _ => ?_))
   | exact ih0 _ _
   | exact ih1 _ _ _
   | exact ih2 _ _ _
   | exact ih3 _ _
   | exact LeO.none _
   | refine LeO.ite ?_ ?_
   | refine LeO.bind ?_ (fun _ => ?_)
  ·intro y0 y1 y2
   unfold caulkerref06_Between.j2
   repeat' first
   | (with_reducible exact ih0 _ _)
   | (with_reducible exact ih1 _ _ _)
   | (with_reducible exact ih2 _ _ _)
   | (with_reducible exact ih3 _ _)
   | (with_reducible exact LeO.refl _)
   | (with_reducible exact LeO.none _)
   | (with_reducible refine LeO.ite ?_ ?_)
   | (with_reducible refine LeO.bind ?_ (fun _ => ?_))
   | exact ih0 _ _
   | exact ih1 _ _ _
   | exact ih2 _ _ _
   | exact ih3 _ _
   | exact LeO.none _
   | refine LeO.ite ?_ ?_
   | refine LeO.bind ?_ (fun _ => ?_)
  ·intro y0 y1
   unfold caulkerref06_Between.l1
   repeat' first
   | (with_reducible exact ih0 _ _)
   | (with_reducible exact ih1 _ _ _)
   | (with_reducible exact ih2 _ _ _)
   | (with_reducible exact ih3 _ _)
   | (with_reducible exact LeO.refl _)
   | (with_reducible exact LeO.none _)
   | (with_reducible refine LeO.ite ?_ ?_)
   | (with_reducible refine LeO.bind ?_ (fun _ => ?_))
   | exact ih0 _ _
   | exact ih1 _ _ _
   | exact ih2 _ _ _
   | exact ih3 _ _
   | exact LeO.none _
   | refine LeO.ite ?_ ?_
   | refine LeO.bind ?_ (fun _ => ?_)
theorem caulkerref06_Between.mono : ∀ a0 a1 k, LeO (caulkerref06_Between.f k a0 a1) (caulkerref06_Between.f (k + 1) a0 a1) := by
 intro a0 a1 k
 obtain ⟨ih0, ih1, ih2, ih3⟩ := caulkerref06_Between.mono_l k
 unfold caulkerref06_Between.f
 repeat' first
   | (with_reducible exact ih0 _ _)
   | (with_reducible exact ih1 _ _ _)
   | (with_reducible exact ih2 _ _ _)
   | (with_reducible exact ih3 _ _)
   | (with_reducible exact LeO.refl _)
   | (with_reducible exact LeO.none _)
   | (with_reducible refine LeO.ite ?_ ?_)
   | (with_reducible refine LeO.bind ?_ (fun _ => ?_))
   | exact ih0 _ _
   | exact ih1 _ _ _
   | exact ih2 _ _ _
   | exact ih3 _ _
   | exact LeO.none _
   | refine LeO.ite ?_ ?_
   | refine LeO.bind ?_ (fun _ => ?_)
set_option maxHeartbeats 8000000 in
set_option maxRecDepth 100000 in
theorem caulkerref06_Between.calls (k : Nat) (a0 : ByteArray) (a1 : Int) (r : Int) (w : World) (h : caulkerref06_Between.f k a0 a1 = some r) :
  Calls Try.prog 10 #[.string a0, .int .i64 a1] w fun e w' => e = .returned (.int .i64 r) ∧ Drawn0 w w' := by
 have H : (caulkerref06_Between.l0 k a0 a1) = some r := h
 clear h
 have H' := Aside0.mk H
 clear H
 go_enter Try.func10, Try.ntmps10
 go_wp2
 go_loopg [1] k (fun kq v1 w' => ∃ (x1_1 : Int), v1 = .int .i64 x1_1 ∧ Aside0 (caulkerref06_Between.l0 kq a0 x1_1 = some r) ∧ Aside0 (kq ≤ k) ∧ Drawn0 w w')
 case atStart => exact ⟨(a1), (by first | rfl | (simp; done) | (simp [*]; done)), H', ⟨Nat.le_refl _⟩, by repeat (first | exact Drawn0.refl _ | apply Drawn0.step)⟩
 case round =>
  clear H'
  try clear c1
  try clear p2
  obtain ⟨x1_1, rfl, HA, HK1, ⟨m1, rfl⟩⟩ := hrel
  cases gk with
  | zero => exact absurd HA.out (by simp [caulkerref06_Between.l0])
  | succ k1 =>
   have H := HA.out
   clear HA
   simp only [caulkerref06_Between.l0] at H
   by_cases c3 : x1_1 < (a0.size : Int)
   ·rw [if_pos c3] at H
    have c3b0 : decide (x1_1 < (a0.size : Int)) = true := decide_eq_true c3
    clear c3
    have HC4 := Aside0.mk H
    clear H
    go_upto_region 2 with (fail)
    go_cut [30] (fun v30 wc => ∃ (kq : Nat) (x30_3 : Bool), v30 = .bool x30_3 ∧ Aside0 (caulkerref06_Between.j1 kq a0 x1_1 x30_3 = some r) ∧ Aside0 (kq ≤ k1) ∧ Drawn0 w wc)
    case first =>
     have H := HC4.out
     clear HC4
     by_cases c5 : 0 ≤ x1_1
     ·rw [if_pos c5] at H
      have c5b0 : decide (0 ≤ x1_1) = true := decide_eq_true c5
      clear c5
      (first | rw [c5b0] | (simp only [i64_w, i32_w]; rw [c5b0]) | skip)
      by_cases c7 : (bt a0 x1_1) = 32
      ·rw [if_pos c7] at H
       have c7b0 : ((bt a0 x1_1) == 32) = true := beq_iff_eq.mpr c7
       have c7b1 : ((bt a0 x1_1) != 32) = false := bne_eq_false_iff_eq.mpr c7
       clear c7
       have H' := Aside0.mk H
       clear H
       have p6 : 0 ≤ (x1_1 : Int) := of_decide_eq_true (by first | (with_reducible assumption) | assumption)
       have q6 : x1_1 < (a0.size : Int) := of_decide_eq_true (by first | (with_reducible assumption) | assumption)
       have hx6 := bt_at a0 x1_1
       replace p6 := eq_true p6
       replace q6 := eq_true q6
       go_wp2
       go_meet
       case rel => exact ⟨_, (true), (by first | rfl | (simp; done) | (simp [*]; done)), H', ⟨by have := HK1.out; first | omega | exact Nat.le_refl _⟩, by repeat (first | exact Drawn0.refl _ | apply Drawn0.step)⟩
      ·rw [if_neg c7] at H
       have c7b0 : ((bt a0 x1_1) == 32) = false := beq_eq_false_iff_ne.mpr c7
       have c7b1 : ((bt a0 x1_1) != 32) = true := bne_iff_ne.mpr c7
       by_cases c9 : (bt a0 x1_1) = 9
       ·rw [if_pos c9] at H
        have c9b0 : ((bt a0 x1_1) == 9) = true := beq_iff_eq.mpr c9
        have c9b1 : ((bt a0 x1_1) != 9) = false := bne_eq_false_iff_eq.mpr c9
        clear c9
        have H' := Aside0.mk H
        clear H
        have p6 : 0 ≤ (x1_1 : Int) := of_decide_eq_true (by first | (with_reducible assumption) | assumption)
        have q6 : x1_1 < (a0.size : Int) := of_decide_eq_true (by first | (with_reducible assumption) | assumption)
        have hx6 := bt_at a0 x1_1
        replace p6 := eq_true p6
        replace q6 := eq_true q6
        have p8 : 0 ≤ (x1_1 : Int) := of_decide_eq_true (by first | (with_reducible assumption) | assumption)
        have q8 : x1_1 < (a0.size : Int) := of_decide_eq_true (by first | (with_reducible assumption) | assumption)
        have hx8 := bt_at a0 x1_1
        replace p8 := eq_true p8
        replace q8 := eq_true q8
        go_wp2
        go_meet
        case rel => exact ⟨_, (true), (by first | rfl | (simp; done) | (simp [*]; done)), H', ⟨by have := HK1.out; first | omega | exact Nat.le_refl _⟩, by repeat (first | exact Drawn0.refl _ | apply Drawn0.step)⟩
       ·rw [if_neg c9] at H
        have c9b0 : ((bt a0 x1_1) == 9) = false := beq_eq_false_iff_ne.mpr c9
        have c9b1 : ((bt a0 x1_1) != 9) = true := bne_iff_ne.mpr c9
        by_cases c11 : (bt a0 x1_1) = 10
        ·rw [if_pos c11] at H
         have c11b0 : ((bt a0 x1_1) == 10) = true := beq_iff_eq.mpr c11
         have c11b1 : ((bt a0 x1_1) != 10) = false := bne_eq_false_iff_eq.mpr c11
         clear c11
         have H' := Aside0.mk H
         clear H
         have p6 : 0 ≤ (x1_1 : Int) := of_decide_eq_true (by first | (with_reducible assumption) | assumption)
         have q6 : x1_1 < (a0.size : Int) := of_decide_eq_true (by first | (with_reducible assumption) | assumption)
         have hx6 := bt_at a0 x1_1
         replace p6 := eq_true p6
         replace q6 := eq_true q6
         have p8 : 0 ≤ (x1_1 : Int) := of_decide_eq_true (by first | (with_reducible assumption) | assumption)
         have q8 : x1_1 < (a0.size : Int) := of_decide_eq_true (by first | (with_reducible assumption) | assumption)
         have hx8 := bt_at a0 x1_1
         replace p8 := eq_true p8
         replace q8 := eq_true q8
         have p10 : 0 ≤ (x1_1 : Int) := of_decide_eq_true (by first | (with_reducible assumption) | assumption)
         have q10 : x1_1 < (a0.size : Int) := of_decide_eq_true (by first | (with_reducible assumption) | assumption)
         have hx10 := bt_at a0 x1_1
         replace p10 := eq_true p10
         replace q10 := eq_true q10
         go_wp2
         go_meet
         case rel => exact ⟨_, (true), (by first | rfl | (simp; done) | (simp [*]; done)), H', ⟨by have := HK1.out; first | omega | exact Nat.le_refl _⟩, by repeat (first | exact Drawn0.refl _ | apply Drawn0.step)⟩
        ·rw [if_neg c11] at H
         have c11b0 : ((bt a0 x1_1) == 10) = false := beq_eq_false_iff_ne.mpr c11
         have c11b1 : ((bt a0 x1_1) != 10) = true := bne_iff_ne.mpr c11
         have H' := Aside0.mk H
         clear H
         have p6 : 0 ≤ (x1_1 : Int) := of_decide_eq_true (by first | (with_reducible assumption) | assumption)
         have q6 : x1_1 < (a0.size : Int) := of_decide_eq_true (by first | (with_reducible assumption) | assumption)
         have hx6 := bt_at a0 x1_1
         replace p6 := eq_true p6
         replace q6 := eq_true q6
         have p8 : 0 ≤ (x1_1 : Int) := of_decide_eq_true (by first | (with_reducible assumption) | assumption)
         have q8 : x1_1 < (a0.size : Int) := of_decide_eq_true (by first | (with_reducible assumption) | assumption)
         have hx8 := bt_at a0 x1_1
         replace p8 := eq_true p8
         replace q8 := eq_true q8
         have p10 : 0 ≤ (x1_1 : Int) := of_decide_eq_true (by first | (with_reducible assumption) | assumption)
         have q10 : x1_1 < (a0.size : Int) := of_decide_eq_true (by first | (with_reducible assumption) | assumption)
         have hx10 := bt_at a0 x1_1
         replace p10 := eq_true p10
         replace q10 := eq_true q10
         have p12 : 0 ≤ (x1_1 : Int) := of_decide_eq_true (by first | (with_reducible assumption) | assumption)
         have q12 : x1_1 < (a0.size : Int) := of_decide_eq_true (by first | (with_reducible assumption) | assumption)
         have hx12 := bt_at a0 x1_1
         replace p12 := eq_true p12
         replace q12 := eq_true q12
         go_wp2
         go_meet
         case rel => exact ⟨_, (((bt a0 x1_1) == 13)), (by first | rfl | (simp; done) | (simp [*]; done)), H', ⟨by have := HK1.out; first | omega | exact Nat.le_refl _⟩, by repeat (first | exact Drawn0.refl _ | apply Drawn0.step)⟩
     ·rw [if_neg c5] at H
      exact absurd H (by simp)
    case rest =>
     clear HC4
     try clear c1
     try clear p1
     try clear q1
     try clear hx1
     try clear p2
     try clear c3
     try clear c3b0
     try clear c5
     try clear c5b0
     try clear p6
     try clear q6
     try clear hx6
     try clear c7
     try clear c7b0
     try clear c7b1
     try clear p8
     try clear q8
     try clear hx8
     try clear c9
     try clear c9b0
     try clear c9b1
     try clear c10
     try clear p10
     try clear q10
     try clear hx10
     try clear c11
     try clear c11b0
     try clear c11b1
     try clear p12
     try clear q12
     try clear hx12
     try clear p10
     try clear p12
     try clear p2
     try clear p6
     try clear p8
     try clear q10
     try clear q12
     try clear q6
     try clear q8
     obtain ⟨kq, x30_3, rfl, HA, HJ3, ⟨mc3, rfl⟩⟩ := hcut
     cases kq with
     | zero => exact absurd HA.out (by simp [caulkerref06_Between.j1])
     | succ kj3 =>
      have H := HA.out
      clear HA
      simp only [caulkerref06_Between.j1] at H
      by_cases c13 : x30_3 = true
      ·subst c13
       have H1 : (caulkerref06_Between.l0 kj3 a0 (wrap64 (x1_1 + 1))) = some r := by rw [if_pos rfl] at H; exact H
       clear H
       have H := H1
       clear H1
       have H' := Aside0.mk H
       clear H
       go_wp2
       go_roundg kj3
       case measure => have := HK1.out; have := HJ3.out; omega
       case rel => exact ⟨(wrap64 (x1_1 + 1)), (by first | rfl | (simp; done) | (simp [*]; done)), H', ⟨by have := HK1.out; have := HJ3.out; omega⟩, by repeat (first | exact Drawn0.refl _ | apply Drawn0.step)⟩
      ·replace c13 := Bool.eq_false_iff.mpr c13
       subst c13
       have H1 : (if (wrap64 (x1_1 + 1)) < (a0.size : Int) then (if 0 ≤ x1_1 then (if x1_1 < (a0.size : Int) then (if (bt a0 x1_1) = 47 then (if 0 ≤ (wrap64 (x1_1 + 1)) then (caulkerref06_Between.j2 kj3 a0 x1_1 ((bt a0 (wrap64 (x1_1 + 1))) == 47)) else (none)) else (caulkerref06_Between.j2 kj3 a0 x1_1 false)) else (none)) else (none)) else (caulkerref06_Between.j2 kj3 a0 x1_1 false)) = some r := by rw [if_neg (show ¬ (false = true) by decide)] at H; exact H
       clear H
       have H := H1
       clear H1
       have HC14 := Aside0.mk H
       clear H
       go_upto_region 4 with (fail)
       go_cut [50] (fun v50 wc => ∃ (kq : Nat) (x50_13 : Bool), v50 = .bool x50_13 ∧ Aside0 (caulkerref06_Between.j2 kq a0 x1_1 x50_13 = some r) ∧ Aside0 (kq ≤ kj3) ∧ Drawn0 w wc)
       case first =>
        have H := HC14.out
        clear HC14
        by_cases c15 : (wrap64 (x1_1 + 1)) < (a0.size : Int)
        ·rw [if_pos c15] at H
         have c15b0 : decide ((wrap64 (x1_1 + 1)) < (a0.size : Int)) = true := decide_eq_true c15
         clear c15
         (first | rw [c15b0] | (simp only [i64_w, i32_w]; rw [c15b0]) | skip)
         by_cases c16 : 0 ≤ x1_1
         ·rw [if_pos c16] at H
          have c16b0 : decide (0 ≤ x1_1) = true := decide_eq_true c16
          clear c16
          by_cases c17 : x1_1 < (a0.size : Int)
          ·rw [if_pos c17] at H
           have c17b0 : decide (x1_1 < (a0.size : Int)) = true := decide_eq_true c17
           clear c17
           by_cases c19 : (bt a0 x1_1) = 47
           ·rw [if_pos c19] at H
            have c19b0 : ((bt a0 x1_1) == 47) = true := beq_iff_eq.mpr c19
            have c19b1 : ((bt a0 x1_1) != 47) = false := bne_eq_false_iff_eq.mpr c19
            clear c19
            obtain ⟨ji20, hji20⟩ : ∃ j_ : Int, (wrap64 (x1_1 + 1)) = j_ := ⟨_, rfl⟩
            replace H : (if 0 ≤ (ji20) then (caulkerref06_Between.j2 kj3 a0 x1_1 ((bt a0 (ji20)) == 47)) else (none)) = some r := by first | (rw [hji20] at H; exact H) | (simp only [hji20] at H ⊢; exact H)
            (try rw [hji20] at c15b0)
            have hji20w : (IntKind.i64.wrap (x1_1 + 1)) = ji20 := (i64_w _).trans hji20
            by_cases c21 : 0 ≤ (ji20)
            ·rw [if_pos c21] at H
             have c21b0 : decide (0 ≤ (ji20)) = true := decide_eq_true c21
             clear c21
             have H' := Aside0.mk H
             clear H
             have p18 : 0 ≤ (x1_1 : Int) := of_decide_eq_true (by first | (with_reducible assumption) | assumption)
             have q18 : x1_1 < (a0.size : Int) := of_decide_eq_true (by first | (with_reducible assumption) | assumption)
             have hx18 := bt_at a0 x1_1
             replace p18 := eq_true p18
             replace q18 := eq_true q18
             have p22 : 0 ≤ ((ji20) : Int) := of_decide_eq_true (by first | (with_reducible assumption) | assumption)
             have q22 : (ji20) < (a0.size : Int) := of_decide_eq_true (by first | (with_reducible assumption) | assumption)
             have hx22 := bt_at a0 (ji20)
             replace p22 := eq_true p22
             replace q22 := eq_true q22
             go_wp2
             go_meet
             case rel => exact ⟨_, (((bt a0 (ji20)) == 47)), (by first | rfl | (simp; done) | (simp only [← hji20] <;> (first | rfl | simp)) | (simp [*]; done)), H', ⟨by have := HK1.out; have := HJ3.out; first | omega | exact Nat.le_refl _⟩, by repeat (first | exact Drawn0.refl _ | apply Drawn0.step)⟩
            ·rw [if_neg c21] at H
             exact absurd H (by simp)
           ·rw [if_neg c19] at H
            have c19b0 : ((bt a0 x1_1) == 47) = false := beq_eq_false_iff_ne.mpr c19
            have c19b1 : ((bt a0 x1_1) != 47) = true := bne_iff_ne.mpr c19
            have H' := Aside0.mk H
            clear H
            have p18 : 0 ≤ (x1_1 : Int) := of_decide_eq_true (by first | (with_reducible assumption) | assumption)
            have q18 : x1_1 < (a0.size : Int) := of_decide_eq_true (by first | (with_reducible assumption) | assumption)
            have hx18 := bt_at a0 x1_1
            replace p18 := eq_true p18
            replace q18 := eq_true q18
            go_wp2
            go_meet
            case rel => exact ⟨_, (false), (by first | rfl | (simp; done) | (simp [*]; done)), H', ⟨by have := HK1.out; have := HJ3.out; first | omega | exact Nat.le_refl _⟩, by repeat (first | exact Drawn0.refl _ | apply Drawn0.step)⟩
          ·rw [if_neg c17] at H
           exact absurd H (by simp)
         ·rw [if_neg c16] at H
          exact absurd H (by simp)
        ·rw [if_neg c15] at H
         have c15b0 : decide ((wrap64 (x1_1 + 1)) < (a0.size : Int)) = false := decide_eq_false c15
         clear c15
         (first | rw [c15b0] | (simp only [i64_w, i32_w]; rw [c15b0]) | skip)
         have H' := Aside0.mk H
         clear H
         go_wp2
         go_meet
         case rel => exact ⟨_, (false), (by first | rfl | (simp; done) | (simp [*]; done)), H', ⟨by have := HK1.out; have := HJ3.out; first | omega | exact Nat.le_refl _⟩, by repeat (first | exact Drawn0.refl _ | apply Drawn0.step)⟩
       case rest =>
        clear HC14
        try clear c1
        try clear p1
        try clear q1
        try clear hx1
        try clear c2
        try clear p2
        try clear q2
        try clear hx2
        try clear c3
        try clear c3b0
        try clear c5
        try clear c5b0
        try clear p6
        try clear q6
        try clear hx6
        try clear c7
        try clear c7b0
        try clear c7b1
        try clear p8
        try clear q8
        try clear hx8
        try clear c9
        try clear c9b0
        try clear c9b1
        try clear c10
        try clear p10
        try clear q10
        try clear hx10
        try clear c11
        try clear c11b0
        try clear c11b1
        try clear p12
        try clear q12
        try clear hx12
        try clear c13
        try clear c15
        try clear c15b0
        try clear c16
        try clear c16b0
        try clear c17
        try clear c17b0
        try clear p18
        try clear q18
        try clear hx18
        try clear c19
        try clear c19b0
        try clear c19b1
        try clear c21
        try clear c21b0
        try clear p22
        try clear q22
        try clear hx22
        try clear p1
        try clear p10
        try clear p12
        try clear p18
        try clear p2
        try clear p22
        try clear p6
        try clear p8
        try clear q1
        try clear q10
        try clear q12
        try clear q18
        try clear q22
        try clear q6
        try clear q8
        obtain ⟨kq, x50_13, rfl, HA, HJ13, ⟨mc13, rfl⟩⟩ := hcut
        cases kq with
        | zero => exact absurd HA.out (by simp [caulkerref06_Between.j2])
        | succ kj13 =>
         have H := HA.out
         clear HA
         simp only [caulkerref06_Between.j2] at H
         by_cases c23 : x50_13 = true
         ·subst c23
          have H1 : (caulkerref06_Between.l1 kj13 a0 x1_1) = some r := by rw [if_pos rfl] at H; exact H
          clear H
          have H := H1
          clear H1
          have H' := Aside0.mk H
          clear H
          go_wp2
          go_loopg [1] kj13 (fun kq v1 w' => ∃ (x1_4 : Int), v1 = .int .i64 x1_4 ∧ Aside0 (caulkerref06_Between.l1 kq a0 x1_4 = some r) ∧ Aside0 (kq ≤ kj13) ∧ Drawn0 w w')
          case atStart => exact ⟨(x1_1), (by first | rfl | (simp; done) | (simp [*]; done)), H', ⟨Nat.le_refl _⟩, by repeat (first | exact Drawn0.refl _ | apply Drawn0.step)⟩
          case round =>
           clear H'
           try clear c1
           try clear p1
           try clear q1
           try clear hx1
           try clear c2
           try clear p2
           try clear q2
           try clear hx2
           try clear c3
           try clear c3b0
           try clear c5
           try clear c5b0
           try clear p6
           try clear q6
           try clear hx6
           try clear c7
           try clear c7b0
           try clear c7b1
           try clear p8
           try clear q8
           try clear hx8
           try clear c9
           try clear c9b0
           try clear c9b1
           try clear c10
           try clear p10
           try clear q10
           try clear hx10
           try clear c11
           try clear c11b0
           try clear c11b1
           try clear p12
           try clear q12
           try clear hx12
           try clear c13
           try clear c15
           try clear c15b0
           try clear c16
           try clear c16b0
           try clear c17
           try clear c17b0
           try clear p18
           try clear q18
           try clear hx18
           try clear c19
           try clear c19b0
           try clear c19b1
           try clear c21
           try clear c21b0
           try clear p22
           try clear q22
           try clear hx22
           try clear c23
           try clear p1
           try clear p10
           try clear p12
           try clear p18
           try clear p2
           try clear p22
           try clear p6
           try clear p8
           try clear q1
           try clear q10
           try clear q12
           try clear q18
           try clear q2
           try clear q22
           try clear q6
           try clear q8
           obtain ⟨x1_4, rfl, HA, HK4, ⟨m4, rfl⟩⟩ := hrel
           cases gk with
           | zero => exact absurd HA.out (by simp [caulkerref06_Between.l1])
           | succ k4 =>
            have H := HA.out
            clear HA
            simp only [caulkerref06_Between.l1] at H
            by_cases c24 : x1_4 < (a0.size : Int)
            ·rw [if_pos c24] at H
             have c24b0 : decide (x1_4 < (a0.size : Int)) = true := decide_eq_true c24
             clear c24
             by_cases c25 : 0 ≤ x1_4
             ·rw [if_pos c25] at H
              have c25b0 : decide (0 ≤ x1_4) = true := decide_eq_true c25
              clear c25
              by_cases c27 : (bt a0 x1_4) = 10
              ·rw [if_pos c27] at H
               have c27b0 : ((bt a0 x1_4) == 10) = true := beq_iff_eq.mpr c27
               have c27b1 : ((bt a0 x1_4) != 10) = false := bne_eq_false_iff_eq.mpr c27
               clear c27
               have H' := Aside0.mk H
               clear H
               have p26 : 0 ≤ (x1_4 : Int) := of_decide_eq_true (by first | (with_reducible assumption) | assumption)
               have q26 : x1_4 < (a0.size : Int) := of_decide_eq_true (by first | (with_reducible assumption) | assumption)
               have hx26 := bt_at a0 x1_4
               replace p26 := eq_true p26
               replace q26 := eq_true q26
               go_wp2
               go_roundg k4
               case measure => have := HK1.out; have := HJ3.out; have := HJ13.out; have := HK4.out; omega
               case rel => exact ⟨(x1_4), (by first | rfl | (simp; done) | (simp [*]; done)), H', ⟨by have := HK1.out; have := HJ3.out; have := HJ13.out; have := HK4.out; omega⟩, by repeat (first | exact Drawn0.refl _ | apply Drawn0.step)⟩
              ·rw [if_neg c27] at H
               have c27b0 : ((bt a0 x1_4) == 10) = false := beq_eq_false_iff_ne.mpr c27
               have c27b1 : ((bt a0 x1_4) != 10) = true := bne_iff_ne.mpr c27
               have H' := Aside0.mk H
               clear H
               have p26 : 0 ≤ (x1_4 : Int) := of_decide_eq_true (by first | (with_reducible assumption) | assumption)
               have q26 : x1_4 < (a0.size : Int) := of_decide_eq_true (by first | (with_reducible assumption) | assumption)
               have hx26 := bt_at a0 x1_4
               replace p26 := eq_true p26
               replace q26 := eq_true q26
               go_wp2
               go_roundg k4
               case measure => have := HK1.out; have := HJ3.out; have := HJ13.out; have := HK4.out; omega
               case rel => exact ⟨(wrap64 (x1_4 + 1)), (by first | rfl | (simp; done) | (simp [*]; done)), H', ⟨by have := HK1.out; have := HJ3.out; have := HJ13.out; have := HK4.out; omega⟩, by repeat (first | exact Drawn0.refl _ | apply Drawn0.step)⟩
             ·rw [if_neg c25] at H
              exact absurd H (by simp)
            ·rw [if_neg c24] at H
             have c24b0 : decide (x1_4 < (a0.size : Int)) = false := decide_eq_false c24
             clear c24
             have H' := Aside0.mk H
             clear H
             go_wp2
             go_roundg k4
             case measure => have := HK1.out; have := HJ3.out; have := HJ13.out; have := HK4.out; omega
             case rel => exact ⟨(x1_4), (by first | rfl | (simp; done) | (simp [*]; done)), H', ⟨by have := HK1.out; have := HJ3.out; have := HJ13.out; have := HK4.out; omega⟩, by repeat (first | exact Drawn0.refl _ | apply Drawn0.step)⟩
         ·replace c23 := Bool.eq_false_iff.mpr c23
          subst c23
          have H1 : (some x1_1) = some r := by rw [if_neg (show ¬ (false = true) by decide)] at H; exact H
          clear H
          have H := H1
          clear H1
          obtain rfl := Option.some.inj H
          go_wp2
          go_ret
          exact ⟨by first | rfl | (simp; done) | (simp [*]; done), by repeat (first | exact Drawn0.refl _ | apply Drawn0.step)⟩
   ·rw [if_neg c3] at H
    have c3b0 : decide (x1_1 < (a0.size : Int)) = false := decide_eq_false c3
    clear c3
    obtain rfl := Option.some.inj H
    go_wp2
    go_ret
    exact ⟨by first | rfl | (simp; done) | (simp [*]; done), by repeat (first | exact Drawn0.refl _ | apply Drawn0.step)⟩

end Go.Proofs.Ytlcblkjgkaiadaa.X
