/- What the program's functions answer, as Lean functions, and that each call does just that; no condition. Written by a program (px.py) out of the translation. -/
import Derived.Test.YtbnopcndjdpnkaaDoorX0
import Derived.Test.YtbnopcndjdpnkaaDoorNumW0
import Derived.Laws.FloatArith
import Derived.Test.YtbnopcndjdpnkaaDoorX35
namespace Go.Proofs.YtbnopcndjdpnkaaDoor.X
open Go.RowKit Go.Proofs.YtbnopcndjdpnkaaDoorW.PrintWords Go.Proofs.YtbnopcndjdpnkaaDoorW.PrintLast Go.Proofs.YtbnopcndjdpnkaaDoorW.PrintMore
attribute [local go_sem] NuW.run_from NuW.run_bits NuW.run_from2 max2_int min2_int max_two min_two max_three min_three max_four min_four   -- for this text's walks alone
set_option linter.unusedVariables false
set_option linter.unusedSimpArgs false

/-! ### caulkerref05_Float: function 14 -/
/-- The quotient of two whole numbers as doubles. -/
def caulkerref05_Float.q (a b : Int) : Option (Int × Int) := (floatBits .quo .f64 (floatOfInt .f64 a) (floatOfInt .f64 b)).bind fun r => some (((r : Nat) : Int), 0)
theorem caulkerref05_Float.q_some {a b r1 r2 : Int} (h : caulkerref05_Float.q a b = some (r1, r2)) : ∃ r : Nat, floatBits .quo .f64 (floatOfInt .f64 a) (floatOfInt .f64 b) = some r ∧ r1 = (r : Int) ∧ r2 = 0 := by
  unfold caulkerref05_Float.q at h
  obtain ⟨r, hr, h2⟩ := Option.bind_eq_some_iff.1 h
  simp only [Option.some.injEq, Prod.mk.injEq] at h2
  exact ⟨r, hr, h2.1.symm, h2.2.symm⟩
mutual
def caulkerref05_Float.l0 : Nat → ByteArray → Int → Int → Option (Int × Int)
 | 0, _, _, _ => none
 | k + 1, x0, x4, x5 => if x5 ≥ 0 then (if 0 ≤ x5 then (if x5 < (x0.size : Int) then (if (bt x0 x5) = 46 then (caulkerref05_Float.l0 k x0 x5 (wrap64 (x5 - 1))) else (caulkerref05_Float.l0 k x0 x4 (wrap64 (x5 - 1)))) else (none)) else (none)) else (if x4 < 0 then (caulkerref05_Float.j1 k x0 x4 true) else (if 0 ≤ x4 then (if x4 ≤ (x0.size : Int) then ((caulkerref05_digits.f k (x0.extract 0 (x4 : Int).toNat)).bind fun t157 => (if t157 = true then (if 0 ≤ (wrap64 (x4 + 1)) then (if (wrap64 (x4 + 1)) ≤ (x0.size : Int) then ((caulkerref05_digits.f k (x0.extract ((wrap64 (x4 + 1)) : Int).toNat x0.size)).bind fun t158 => (if t158 = true then (if x4 > 1 then (if 0 < (x0.size : Int) then (caulkerref05_Float.j1 k x0 x4 ((bt x0 0) == 48)) else (none)) else (caulkerref05_Float.j1 k x0 x4 false)) else (caulkerref05_Float.j1 k x0 x4 true))) else (none)) else (none)) else (caulkerref05_Float.j1 k x0 x4 true))) else (none)) else (none)))
def caulkerref05_Float.j1 : Nat → ByteArray → Int → Bool → Option (Int × Int)
 | 0, _, _, _ => none
 | k + 1, x0, x4, x46 => if x46 = true then (some (0, 5)) else (if (wrap64 ((x0.size : Int) - 1)) > 15 then (some (0, 2)) else (caulkerref05_Float.l1 k x0 x4 0 1 0))
def caulkerref05_Float.l1 : Nat → ByteArray → Int → Int → Int → Int → Option (Int × Int)
 | 0, _, _, _, _, _ => none
 | k + 1, x0, x4, x6, x7, x8 => if x8 < (x0.size : Int) then (if x8 = x4 then (caulkerref05_Float.l1 k x0 x4 x6 x7 (wrap64 (x8 + 1))) else (if 0 ≤ x8 then (if x8 > x4 then (caulkerref05_Float.l1 k x0 x4 (wrap64 ((wrap64 (10 * x6)) + (((bt x0 x8) - 48) % 256))) (wrap64 (x7 * 10)) (wrap64 (x8 + 1))) else (caulkerref05_Float.l1 k x0 x4 (wrap64 ((wrap64 (10 * x6)) + (((bt x0 x8) - 48) % 256))) x7 (wrap64 (x8 + 1)))) else (none))) else (caulkerref05_Float.q x6 x7)
end
def caulkerref05_Float.f (k : Nat) (a0 : ByteArray) : Option (Int × Int) := caulkerref05_Float.l0 k a0 (-1) (wrap64 ((a0.size : Int) - 1))
theorem caulkerref05_Float.mono_l : ∀ k, (∀ y0 y1 y2, LeO (caulkerref05_Float.l0 k y0 y1 y2) (caulkerref05_Float.l0 (k + 1) y0 y1 y2)) ∧ (∀ y0 y1 y2, LeO (caulkerref05_Float.j1 k y0 y1 y2) (caulkerref05_Float.j1 (k + 1) y0 y1 y2)) ∧ (∀ y0 y1 y2 y3 y4, LeO (caulkerref05_Float.l1 k y0 y1 y2 y3 y4) (caulkerref05_Float.l1 (k + 1) y0 y1 y2 y3 y4))
 | 0 => ⟨fun _ _ _ r h => by simp [caulkerref05_Float.l0] at h, fun _ _ _ r h => by simp [caulkerref05_Float.j1] at h, fun _ _ _ _ _ r h => by simp [caulkerref05_Float.l1] at h⟩
 | k + 1 => by
  obtain ⟨ih0, ih1, ih2⟩ := caulkerref05_Float.mono_l k
  refine ⟨?_, ?_, ?_⟩
  ·intro y0 y1 y2
   unfold caulkerref05_Float.l0
   repeat' first
   | (with_reducible exact ih0 _ _ _)
   | (with_reducible exact ih1 _ _ _)
   | (with_reducible exact ih2 _ _ _ _ _)
   | (with_reducible exact caulkerref05_digits.mono _ _)
   | (with_reducible exact LeO.refl _)
   | (with_reducible exact LeO.none _)
   | (with_reducible refine LeO.ite ?_ ?_)
   | (with_reducible refine LeO.bind ?_ (fun _ => ?_))
   | exact ih0 _ _ _
   | exact ih1 _ _ _
   | exact ih2 _ _ _ _ _
   | exact caulkerref05_digits.mono _ _
   | exact LeO.none _
   | refine LeO.ite ?_ ?_
   | refine LeO.bind ?_ (fun _ => ?_)
  ·intro y0 y1 y2
   unfold caulkerref05_Float.j1
   repeat' first
   | (with_reducible exact ih0 _ _ _)
   | (with_reducible exact ih1 _ _ _)
   | (with_reducible exact ih2 _ _ _ _ _)
   | (with_reducible exact caulkerref05_digits.mono _ _)
   | (with_reducible exact LeO.refl _)
   | (with_reducible exact LeO.none _)
   | (with_reducible refine LeO.ite ?_ ?_)
   | (with_reducible refine LeO.bind ?_ (fun _ => ?_))
   | exact ih0 _ _ _
   | exact ih1 _ _ _
   | exact ih2 _ _ _ _ _
   | exact caulkerref05_digits.mono _ _
   | exact LeO.none _
   | refine LeO.ite ?_ ?_
   | refine LeO.bind ?_ (fun _ => ?_)
  ·intro y0 y1 y2 y3 y4
   unfold caulkerref05_Float.l1
   repeat' first
   | (with_reducible exact ih0 _ _ _)
   | (with_reducible exact ih1 _ _ _)
   | (with_reducible exact ih2 _ _ _ _ _)
   | (with_reducible exact caulkerref05_digits.mono _ _)
   | (with_reducible exact LeO.refl _)
   | (with_reducible exact LeO.none _)
   | (with_reducible refine LeO.ite ?_ ?_)
   | (with_reducible refine LeO.bind ?_ (fun _ => ?_))
   | exact ih0 _ _ _
   | exact ih1 _ _ _
   | exact ih2 _ _ _ _ _
   | exact caulkerref05_digits.mono _ _
   | exact LeO.none _
   | refine LeO.ite ?_ ?_
   | refine LeO.bind ?_ (fun _ => ?_)
theorem caulkerref05_Float.mono : ∀ a0 k, LeO (caulkerref05_Float.f k a0) (caulkerref05_Float.f (k + 1) a0) := by
 intro a0 k
 obtain ⟨ih0, ih1, ih2⟩ := caulkerref05_Float.mono_l k
 unfold caulkerref05_Float.f
 repeat' first
   | (with_reducible exact ih0 _ _ _)
   | (with_reducible exact ih1 _ _ _)
   | (with_reducible exact ih2 _ _ _ _ _)
   | (with_reducible exact caulkerref05_digits.mono _ _)
   | (with_reducible exact LeO.refl _)
   | (with_reducible exact LeO.none _)
   | (with_reducible refine LeO.ite ?_ ?_)
   | (with_reducible refine LeO.bind ?_ (fun _ => ?_))
   | exact ih0 _ _ _
   | exact ih1 _ _ _
   | exact ih2 _ _ _ _ _
   | exact caulkerref05_digits.mono _ _
   | exact LeO.none _
   | refine LeO.ite ?_ ?_
   | refine LeO.bind ?_ (fun _ => ?_)
set_option maxHeartbeats 8000000 in
set_option maxRecDepth 100000 in
theorem caulkerref05_Float.calls (k : Nat) (a0 : ByteArray) (r1 : Int) (r2 : Int) (w : World) (h : caulkerref05_Float.f k a0 = some (r1, r2)) :
  Calls Tryd.prog 14 #[.string a0] w fun e w' => e = .returned (.tuple #[.int .u64 r1, .int .i64 r2]) ∧ Drawn0 w w' := by
 have H : (caulkerref05_Float.l0 k a0 (-1) (wrap64 ((a0.size : Int) - 1))) = some (r1, r2) := h
 clear h
 have H' := Aside0.mk H
 clear H
 go_enter Tryd.func14, Tryd.ntmps14
 go_wp2
 go_loopg [4, 5] k (fun kq v4 v5 w' => ∃ (x4_1 : Int) (x5_1 : Int), v4 = .int .i64 x4_1 ∧ v5 = .int .i64 x5_1 ∧ Aside0 (caulkerref05_Float.l0 kq a0 x4_1 x5_1 = some (r1, r2)) ∧ Aside0 (kq ≤ k) ∧ Drawn0 w w')
 case atStart => exact ⟨((-1)), (wrap64 ((a0.size : Int) - 1)), (by first | rfl | (simp; done) | (simp [*]; done)), (by first | rfl | (simp; done) | (simp [*]; done)), H', ⟨Nat.le_refl _⟩, by repeat (first | exact Drawn0.refl _ | apply Drawn0.step)⟩
 case round =>
  clear H'
  try clear c1
  obtain ⟨x4_1, x5_1, rfl, rfl, HA, HK1, ⟨m1, rfl⟩⟩ := hrel
  cases gk with
  | zero => exact absurd HA.out (by simp [caulkerref05_Float.l0])
  | succ k1 =>
   have H := HA.out
   clear HA
   simp only [caulkerref05_Float.l0] at H
   by_cases c2 : x5_1 ≥ 0
   ·rw [if_pos c2] at H
    have c2b0 : decide (0 ≤ x5_1) = true := decide_eq_true c2
    clear c2
    by_cases c3 : 0 ≤ x5_1
    ·rw [if_pos c3] at H
     have c3b0 : decide (0 ≤ x5_1) = true := decide_eq_true c3
     clear c3
     by_cases c4 : x5_1 < (a0.size : Int)
     ·rw [if_pos c4] at H
      have c4b0 : decide (x5_1 < (a0.size : Int)) = true := decide_eq_true c4
      clear c4
      by_cases c6 : (bt a0 x5_1) = 46
      ·rw [if_pos c6] at H
       have c6b0 : ((bt a0 x5_1) == 46) = true := beq_iff_eq.mpr c6
       have c6b1 : ((bt a0 x5_1) != 46) = false := bne_eq_false_iff_eq.mpr c6
       clear c6
       have H' := Aside0.mk H
       clear H
       have p5 : 0 ≤ (x5_1 : Int) := of_decide_eq_true (by first | (with_reducible assumption) | assumption)
       have q5 : x5_1 < (a0.size : Int) := of_decide_eq_true (by first | (with_reducible assumption) | assumption)
       have hx5 := bt_at a0 x5_1
       replace p5 := eq_true p5
       replace q5 := eq_true q5
       go_wp2
       go_roundg k1
       case measure => have := HK1.out; omega
       case rel => exact ⟨(x5_1), (wrap64 (x5_1 - 1)), (by first | rfl | (simp; done) | (simp [*]; done)), (by first | rfl | (simp; done) | (simp [*]; done)), H', ⟨by have := HK1.out; omega⟩, by repeat (first | exact Drawn0.refl _ | apply Drawn0.step)⟩
      ·rw [if_neg c6] at H
       have c6b0 : ((bt a0 x5_1) == 46) = false := beq_eq_false_iff_ne.mpr c6
       have c6b1 : ((bt a0 x5_1) != 46) = true := bne_iff_ne.mpr c6
       have H' := Aside0.mk H
       clear H
       have p5 : 0 ≤ (x5_1 : Int) := of_decide_eq_true (by first | (with_reducible assumption) | assumption)
       have q5 : x5_1 < (a0.size : Int) := of_decide_eq_true (by first | (with_reducible assumption) | assumption)
       have hx5 := bt_at a0 x5_1
       replace p5 := eq_true p5
       replace q5 := eq_true q5
       go_wp2
       go_roundg k1
       case measure => have := HK1.out; omega
       case rel => exact ⟨(x4_1), (wrap64 (x5_1 - 1)), (by first | rfl | (simp; done) | (simp [*]; done)), (by first | rfl | (simp; done) | (simp [*]; done)), H', ⟨by have := HK1.out; omega⟩, by repeat (first | exact Drawn0.refl _ | apply Drawn0.step)⟩
     ·rw [if_neg c4] at H
      exact absurd H (by simp)
    ·rw [if_neg c3] at H
     exact absurd H (by simp)
   ·rw [if_neg c2] at H
    have c2b0 : decide (0 ≤ x5_1) = false := decide_eq_false c2
    clear c2
    have HC7 := Aside0.mk H
    clear H
    go_upto_region 7 with (fail)
    go_cut [46] (fun v46 wc => ∃ (kq : Nat) (x46_6 : Bool), v46 = .bool x46_6 ∧ Aside0 (caulkerref05_Float.j1 kq a0 x4_1 x46_6 = some (r1, r2)) ∧ Aside0 (kq ≤ k1) ∧ Drawn0 w wc)
    case first =>
     have H := HC7.out
     clear HC7
     by_cases c8 : x4_1 < 0
     ·rw [if_pos c8] at H
      have c8b0 : decide (x4_1 < 0) = true := decide_eq_true c8
      clear c8
      (first | rw [c8b0] | (simp only [i64_w, i32_w]; rw [c8b0]) | skip)
      have H' := Aside0.mk H
      clear H
      go_wp2
      go_meet
      case rel => exact ⟨_, (true), (by first | rfl | (simp; done) | (simp [*]; done)), H', ⟨by have := HK1.out; first | omega | exact Nat.le_refl _⟩, by repeat (first | exact Drawn0.refl _ | apply Drawn0.step)⟩
     ·rw [if_neg c8] at H
      have c8b0 : decide (x4_1 < 0) = false := decide_eq_false c8
      clear c8
      (first | rw [c8b0] | (simp only [i64_w, i32_w]; rw [c8b0]) | skip)
      by_cases c9 : 0 ≤ x4_1
      ·rw [if_pos c9] at H
       have c9b0 := eq_true c9
       have c9b1 : decide (0 ≤ x4_1) = true := decide_eq_true c9
       clear c9
       by_cases c10 : x4_1 ≤ (a0.size : Int)
       ·rw [if_pos c10] at H
        have c10b0 := eq_true c10
        have c10b1 : decide (x4_1 ≤ (a0.size : Int)) = true := decide_eq_true c10
        clear c10
        replace H := Option.bind_eq_some_iff.mp H
        obtain ⟨t157, A110, H⟩ := H
        replace H : (if t157 = true then (if 0 ≤ (wrap64 (x4_1 + 1)) then (if (wrap64 (x4_1 + 1)) ≤ (a0.size : Int) then ((caulkerref05_digits.f k1 (a0.extract ((wrap64 (x4_1 + 1)) : Int).toNat a0.size)).bind fun t158 => (if t158 = true then (if x4_1 > 1 then (if 0 < (a0.size : Int) then (caulkerref05_Float.j1 k1 a0 x4_1 ((bt a0 0) == 48)) else (none)) else (caulkerref05_Float.j1 k1 a0 x4_1 false)) else (caulkerref05_Float.j1 k1 a0 x4_1 true))) else (none)) else (none)) else (caulkerref05_Float.j1 k1 a0 x4_1 true)) = some (r1, r2) := H
        have A11 := Aside0.mk A110
        clear A110
        by_cases c12 : t157 = true
        ·subst c12
         have H1 : (if 0 ≤ (wrap64 (x4_1 + 1)) then (if (wrap64 (x4_1 + 1)) ≤ (a0.size : Int) then ((caulkerref05_digits.f k1 (a0.extract ((wrap64 (x4_1 + 1)) : Int).toNat a0.size)).bind fun t158 => (if t158 = true then (if x4_1 > 1 then (if 0 < (a0.size : Int) then (caulkerref05_Float.j1 k1 a0 x4_1 ((bt a0 0) == 48)) else (none)) else (caulkerref05_Float.j1 k1 a0 x4_1 false)) else (caulkerref05_Float.j1 k1 a0 x4_1 true))) else (none)) else (none)) = some (r1, r2) := by rw [if_pos rfl] at H; exact H
         clear H
         have H := H1
         clear H1
         obtain ⟨ji13, hji13⟩ : ∃ j_ : Int, (wrap64 (x4_1 + 1)) = j_ := ⟨_, rfl⟩
         replace H : (if 0 ≤ (ji13) then (if (ji13) ≤ (a0.size : Int) then ((caulkerref05_digits.f k1 (a0.extract ((ji13) : Int).toNat a0.size)).bind fun t158 => (if t158 = true then (if x4_1 > 1 then (if 0 < (a0.size : Int) then (caulkerref05_Float.j1 k1 a0 x4_1 ((bt a0 0) == 48)) else (none)) else (caulkerref05_Float.j1 k1 a0 x4_1 false)) else (caulkerref05_Float.j1 k1 a0 x4_1 true))) else (none)) else (none)) = some (r1, r2) := by first | (rw [hji13] at H; exact H) | (simp only [hji13] at H ⊢; exact H)
         (try rw [hji13] at A11)
         have hji13w : (IntKind.i64.wrap (x4_1 + 1)) = ji13 := (i64_w _).trans hji13
         by_cases c14 : 0 ≤ (ji13)
         ·rw [if_pos c14] at H
          have c14b0 := eq_true c14
          have c14b1 : decide (0 ≤ (ji13)) = true := decide_eq_true c14
          clear c14
          by_cases c15 : (ji13) ≤ (a0.size : Int)
          ·rw [if_pos c15] at H
           have c15b0 := eq_true c15
           have c15b1 : decide ((ji13) ≤ (a0.size : Int)) = true := decide_eq_true c15
           clear c15
           replace H := Option.bind_eq_some_iff.mp H
           obtain ⟨t158, A160, H⟩ := H
           replace H : (if t158 = true then (if x4_1 > 1 then (if 0 < (a0.size : Int) then (caulkerref05_Float.j1 k1 a0 x4_1 ((bt a0 0) == 48)) else (none)) else (caulkerref05_Float.j1 k1 a0 x4_1 false)) else (caulkerref05_Float.j1 k1 a0 x4_1 true)) = some (r1, r2) := H
           have A16 := Aside0.mk A160
           clear A160
           by_cases c17 : t158 = true
           ·subst c17
            have H1 : (if x4_1 > 1 then (if 0 < (a0.size : Int) then (caulkerref05_Float.j1 k1 a0 x4_1 ((bt a0 0) == 48)) else (none)) else (caulkerref05_Float.j1 k1 a0 x4_1 false)) = some (r1, r2) := by rw [if_pos rfl] at H; exact H
            clear H
            have H := H1
            clear H1
            by_cases c18 : x4_1 > 1
            ·rw [if_pos c18] at H
             have c18b0 : decide (1 < x4_1) = true := decide_eq_true c18
             clear c18
             by_cases c19 : 0 < (a0.size : Int)
             ·rw [if_pos c19] at H
              have c19b0 : decide (0 < (a0.size : Int)) = true := decide_eq_true c19
              have c19b1 : decide (0 < a0.size) = true := decide_eq_true (by omega)
              clear c19
              have H' := Aside0.mk H
              clear H
              go_wp2_with (first | (go_at_call 35; (with_reducible refine (caulkerref05_digits.calls k1 (a0.extract 0 (x4_1 : Int).toNat) true _ A11.out).mono ?_); rintro e w' ⟨rfl, ⟨nd, rfl⟩⟩) | (go_at_call 35; (with_reducible refine (caulkerref05_digits.calls k1 (a0.extract ((ji13) : Int).toNat a0.size) true _ A16.out).mono ?_); rintro e w' ⟨rfl, ⟨nd, rfl⟩⟩; have p20 : 0 ≤ (0 : Int) := (by omega); have q20 : 0 < a0.size := (by have : (0 : Int) < (a0.size : Int) := of_decide_eq_true (by first | (with_reducible assumption) | assumption); omega); have hx20 : ∀ h : 0 < a0.size, ((a0[0]'h).toNat : Int) = bt a0 0 := bt_at a0 0; clear p20; have qi20 : (0 < (a0.size : Int)) = True := eq_true (of_decide_eq_true (by first | (with_reducible assumption) | assumption)); replace q20 := eq_true q20))
              go_meet
              case rel => exact ⟨_, (((bt a0 0) == 48)), (by first | rfl | (simp; done) | (simp [*]; done)), H', ⟨by have := HK1.out; first | omega | exact Nat.le_refl _⟩, by repeat (first | exact Drawn0.refl _ | apply Drawn0.step)⟩
             ·rw [if_neg c19] at H
              exact absurd H (by simp)
            ·rw [if_neg c18] at H
             have c18b0 : decide (1 < x4_1) = false := decide_eq_false c18
             clear c18
             have H' := Aside0.mk H
             clear H
             go_wp2_with (first | (go_at_call 35; (with_reducible refine (caulkerref05_digits.calls k1 (a0.extract 0 (x4_1 : Int).toNat) true _ A11.out).mono ?_); rintro e w' ⟨rfl, ⟨nd, rfl⟩⟩) | (go_at_call 35; (with_reducible refine (caulkerref05_digits.calls k1 (a0.extract ((ji13) : Int).toNat a0.size) true _ A16.out).mono ?_); rintro e w' ⟨rfl, ⟨nd, rfl⟩⟩))
             go_meet
             case rel => exact ⟨_, (false), (by first | rfl | (simp; done) | (simp [*]; done)), H', ⟨by have := HK1.out; first | omega | exact Nat.le_refl _⟩, by repeat (first | exact Drawn0.refl _ | apply Drawn0.step)⟩
           ·replace c17 := Bool.eq_false_iff.mpr c17
            subst c17
            have H1 : (caulkerref05_Float.j1 k1 a0 x4_1 true) = some (r1, r2) := by rw [if_neg (show ¬ (false = true) by decide)] at H; exact H
            clear H
            have H := H1
            clear H1
            have H' := Aside0.mk H
            clear H
            go_wp2_with (first | (go_at_call 35; (with_reducible refine (caulkerref05_digits.calls k1 (a0.extract 0 (x4_1 : Int).toNat) true _ A11.out).mono ?_); rintro e w' ⟨rfl, ⟨nd, rfl⟩⟩) | (go_at_call 35; (with_reducible refine (caulkerref05_digits.calls k1 (a0.extract ((ji13) : Int).toNat a0.size) false _ A16.out).mono ?_); rintro e w' ⟨rfl, ⟨nd, rfl⟩⟩))
            go_meet
            case rel => exact ⟨_, (true), (by first | rfl | (simp; done) | (simp [*]; done)), H', ⟨by have := HK1.out; first | omega | exact Nat.le_refl _⟩, by repeat (first | exact Drawn0.refl _ | apply Drawn0.step)⟩
          ·rw [if_neg c15] at H
           exact absurd H (by simp)
         ·rw [if_neg c14] at H
          exact absurd H (by simp)
        ·replace c12 := Bool.eq_false_iff.mpr c12
         subst c12
         have H1 : (caulkerref05_Float.j1 k1 a0 x4_1 true) = some (r1, r2) := by rw [if_neg (show ¬ (false = true) by decide)] at H; exact H
         clear H
         have H := H1
         clear H1
         have H' := Aside0.mk H
         clear H
         go_wp2_with (first | (go_at_call 35; (with_reducible refine (caulkerref05_digits.calls k1 (a0.extract 0 (x4_1 : Int).toNat) false _ A11.out).mono ?_); rintro e w' ⟨rfl, ⟨nd, rfl⟩⟩))
         go_meet
         case rel => exact ⟨_, (true), (by first | rfl | (simp; done) | (simp [*]; done)), H', ⟨by have := HK1.out; first | omega | exact Nat.le_refl _⟩, by repeat (first | exact Drawn0.refl _ | apply Drawn0.step)⟩
       ·rw [if_neg c10] at H
        exact absurd H (by simp)
      ·rw [if_neg c9] at H
       exact absurd H (by simp)
    case rest =>
     clear HC7
     try clear c1
     try clear c2
     try clear c2b0
     try clear p2
     try clear q2
     try clear hx2
     try clear qi2
     try clear c3
     try clear c3b0
     try clear c4
     try clear c4b0
     try clear p5
     try clear q5
     try clear hx5
     try clear c6
     try clear c6b0
     try clear c6b1
     try clear p6
     try clear c8
     try clear c8b0
     try clear c9
     try clear c9b0
     try clear c9b1
     try clear c10
     try clear c10b0
     try clear c10b1
     try clear c12
     try clear c14
     try clear c14b0
     try clear c14b1
     try clear c15
     try clear c15b0
     try clear c15b1
     try clear c17
     try clear c18
     try clear c18b0
     try clear c19
     try clear c19b0
     try clear c19b1
     try clear p20
     try clear q20
     try clear hx20
     try clear qi20
     try clear p20
     try clear p5
     try clear q20
     try clear q5
     obtain ⟨kq, x46_6, rfl, HA, HJ6, ⟨mc6, rfl⟩⟩ := hcut
     cases kq with
     | zero => exact absurd HA.out (by simp [caulkerref05_Float.j1])
     | succ kj6 =>
      have H := HA.out
      clear HA
      simp only [caulkerref05_Float.j1] at H
      by_cases c21 : x46_6 = true
      ·subst c21
       have H1 : (some (0, 5)) = some (r1, r2) := by rw [if_pos rfl] at H; exact H
       clear H
       have H := H1
       clear H1
       simp only [Option.some.injEq, Prod.mk.injEq] at H
       obtain ⟨rfl, rfl⟩ := H
       go_wp2
       go_ret2
       exact ⟨by first | rfl | (simp; done) | (simp [*]; done), by repeat (first | exact Drawn0.refl _ | apply Drawn0.step)⟩
      ·replace c21 := Bool.eq_false_iff.mpr c21
       subst c21
       have H1 : (if (wrap64 ((a0.size : Int) - 1)) > 15 then (some (0, 2)) else (caulkerref05_Float.l1 kj6 a0 x4_1 0 1 0)) = some (r1, r2) := by rw [if_neg (show ¬ (false = true) by decide)] at H; exact H
       clear H
       have H := H1
       clear H1
       by_cases c22 : (wrap64 ((a0.size : Int) - 1)) > 15
       ·rw [if_pos c22] at H
        have c22b0 : decide (15 < (wrap64 ((a0.size : Int) - 1))) = true := decide_eq_true c22
        clear c22
        simp only [Option.some.injEq, Prod.mk.injEq] at H
        obtain ⟨rfl, rfl⟩ := H
        go_wp2
        go_ret2
        exact ⟨by first | rfl | (simp; done) | (simp [*]; done), by repeat (first | exact Drawn0.refl _ | apply Drawn0.step)⟩
       ·rw [if_neg c22] at H
        have c22b0 : decide (15 < (wrap64 ((a0.size : Int) - 1))) = false := decide_eq_false c22
        clear c22
        have H' := Aside0.mk H
        clear H
        go_wp2
        go_loopg [6, 7, 8] kj6 (fun kq v6 v7 v8 w' => ∃ (x6_3 : Int) (x7_3 : Int) (x8_3 : Int), v6 = .int .i64 x6_3 ∧ v7 = .int .i64 x7_3 ∧ v8 = .int .i64 x8_3 ∧ Aside0 (caulkerref05_Float.l1 kq a0 x4_1 x6_3 x7_3 x8_3 = some (r1, r2)) ∧ Aside0 (kq ≤ kj6) ∧ Drawn0 w w')
        case atStart => exact ⟨(0), (1), (0), (by first | rfl | (simp; done) | (simp [*]; done)), (by first | rfl | (simp; done) | (simp [*]; done)), (by first | rfl | (simp; done) | (simp [*]; done)), H', ⟨Nat.le_refl _⟩, by repeat (first | exact Drawn0.refl _ | apply Drawn0.step)⟩
        case round =>
         clear H'
         try clear c1
         try clear c2
         try clear c2b0
         try clear p2
         try clear q2
         try clear hx2
         try clear qi2
         try clear c3
         try clear c3b0
         try clear c4
         try clear c4b0
         try clear p5
         try clear q5
         try clear hx5
         try clear c6
         try clear c6b0
         try clear c6b1
         try clear p6
         try clear c8
         try clear c8b0
         try clear c9
         try clear c9b0
         try clear c9b1
         try clear c10
         try clear c10b0
         try clear c10b1
         try clear c12
         try clear c14
         try clear c14b0
         try clear c14b1
         try clear c15
         try clear c15b0
         try clear c15b1
         try clear c17
         try clear c18
         try clear c18b0
         try clear c19
         try clear c19b0
         try clear c19b1
         try clear p20
         try clear q20
         try clear hx20
         try clear qi20
         try clear c21
         try clear c22
         try clear c22b0
         try clear p2
         try clear p20
         try clear p5
         try clear p6
         try clear q2
         try clear q20
         try clear q5
         obtain ⟨x6_3, x7_3, x8_3, rfl, rfl, rfl, HA, HK3, ⟨m3, rfl⟩⟩ := hrel
         cases gk with
         | zero => exact absurd HA.out (by simp [caulkerref05_Float.l1])
         | succ k3 =>
          have H := HA.out
          clear HA
          simp only [caulkerref05_Float.l1] at H
          by_cases c23 : x8_3 < (a0.size : Int)
          ·rw [if_pos c23] at H
           have c23b0 : decide (x8_3 < (a0.size : Int)) = true := decide_eq_true c23
           clear c23
           by_cases c24 : x8_3 = x4_1
           ·rw [if_pos c24] at H
            have c24b0 : (x8_3 == x4_1) = true := beq_iff_eq.mpr c24
            have c24b1 : (x8_3 != x4_1) = false := bne_eq_false_iff_eq.mpr c24
            clear c24
            have H' := Aside0.mk H
            clear H
            go_wp2
            go_roundg k3
            case measure => have := HK1.out; have := HJ6.out; have := HK3.out; omega
            case rel => exact ⟨(x6_3), (x7_3), (wrap64 (x8_3 + 1)), (by first | rfl | (simp; done) | (simp [*]; done)), (by first | rfl | (simp; done) | (simp [*]; done)), (by first | rfl | (simp; done) | (simp [*]; done)), H', ⟨by have := HK1.out; have := HJ6.out; have := HK3.out; omega⟩, by repeat (first | exact Drawn0.refl _ | apply Drawn0.step)⟩
           ·rw [if_neg c24] at H
            have c24b0 : (x8_3 == x4_1) = false := beq_eq_false_iff_ne.mpr c24
            have c24b1 : (x8_3 != x4_1) = true := bne_iff_ne.mpr c24
            by_cases c25 : 0 ≤ x8_3
            ·rw [if_pos c25] at H
             have c25b0 : decide (0 ≤ x8_3) = true := decide_eq_true c25
             clear c25
             by_cases c27 : x8_3 > x4_1
             ·rw [if_pos c27] at H
              have c27b0 : decide (x4_1 < x8_3) = true := decide_eq_true c27
              clear c27
              have H' := Aside0.mk H
              clear H
              have p26 : 0 ≤ (x8_3 : Int) := of_decide_eq_true (by first | (with_reducible assumption) | assumption)
              have q26 : x8_3 < (a0.size : Int) := of_decide_eq_true (by first | (with_reducible assumption) | assumption)
              have hx26 := bt_at a0 x8_3
              replace p26 := eq_true p26
              replace q26 := eq_true q26
              go_wp2
              go_roundg k3
              case measure => have := HK1.out; have := HJ6.out; have := HK3.out; omega
              case rel => exact ⟨(wrap64 ((wrap64 (10 * x6_3)) + (((bt a0 x8_3) - 48) % 256))), (wrap64 (x7_3 * 10)), (wrap64 (x8_3 + 1)), (by first | rfl | (simp; done) | (simp [*]; done)), (by first | rfl | (simp; done) | (simp [*]; done)), (by first | rfl | (simp; done) | (simp [*]; done)), H', ⟨by have := HK1.out; have := HJ6.out; have := HK3.out; omega⟩, by repeat (first | exact Drawn0.refl _ | apply Drawn0.step)⟩
             ·rw [if_neg c27] at H
              have c27b0 : decide (x4_1 < x8_3) = false := decide_eq_false c27
              clear c27
              have H' := Aside0.mk H
              clear H
              have p26 : 0 ≤ (x8_3 : Int) := of_decide_eq_true (by first | (with_reducible assumption) | assumption)
              have q26 : x8_3 < (a0.size : Int) := of_decide_eq_true (by first | (with_reducible assumption) | assumption)
              have hx26 := bt_at a0 x8_3
              replace p26 := eq_true p26
              replace q26 := eq_true q26
              go_wp2
              go_roundg k3
              case measure => have := HK1.out; have := HJ6.out; have := HK3.out; omega
              case rel => exact ⟨(wrap64 ((wrap64 (10 * x6_3)) + (((bt a0 x8_3) - 48) % 256))), (x7_3), (wrap64 (x8_3 + 1)), (by first | rfl | (simp; done) | (simp [*]; done)), (by first | rfl | (simp; done) | (simp [*]; done)), (by first | rfl | (simp; done) | (simp [*]; done)), H', ⟨by have := HK1.out; have := HJ6.out; have := HK3.out; omega⟩, by repeat (first | exact Drawn0.refl _ | apply Drawn0.step)⟩
            ·rw [if_neg c25] at H
             exact absurd H (by simp)
          ·rw [if_neg c23] at H
           have c23b0 : decide (x8_3 < (a0.size : Int)) = false := decide_eq_false c23
           clear c23
           obtain ⟨rr, hrr, rfl, rfl⟩ := caulkerref05_Float.q_some H
           have hrun : ∀ u : World, (binOp .quo 53 (.float .f64 (floatOfInt .f64 x6_3)) (.float .f64 (floatOfInt .f64 x7_3))).run Tryd.prog u = .ok (.float .f64 rr) u := fun u => run_float_arith (P := Tryd.prog) u .quo 53 .f64 _ _ rr hrr
           clear H hrr
           go_wp2
           go_ret2
           exact ⟨by first | rfl | (simp; done) | (simp [*]; done), by repeat (first | exact Drawn0.refl _ | apply Drawn0.step)⟩

end Go.Proofs.YtbnopcndjdpnkaaDoor.X
