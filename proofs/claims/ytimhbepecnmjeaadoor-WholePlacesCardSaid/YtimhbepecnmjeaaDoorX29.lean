/- What the program's functions answer, as Lean functions, and that each call does just that; no condition. Written by a program (px.py) out of the translation. -/
import Derived.Test.YtimhbepecnmjeaaDoorX0
import Derived.Test.YtimhbepecnmjeaaDoorShort2
namespace Go.Proofs.YtimhbepecnmjeaaDoor.X
open Go.RowKit Go.Proofs.YtimhbepecnmjeaaDoorW.PrintWords Go.Proofs.YtimhbepecnmjeaaDoorW.PrintLast Go.Proofs.YtimhbepecnmjeaaDoorW.PrintMore
attribute [local go_sem] max2_int min2_int max_two min_two max_three min_three max_four min_four   -- for this text's walks alone
set_option linter.unusedVariables false
set_option linter.unusedSimpArgs false

/-! ### caulkerref02_Under: function 29 -/
mutual
def caulkerref02_Under.l0 : Nat → ByteArray → Int → Int → ByteArray → Int → Option (ByteArray)
 | 0, _, _, _, _, _ => none
 | k + 1, x0, x1, x2, x7, x8 => if x8 < (wrap64 (x1 - 1)) then (caulkerref02_Under.j1 k x0 x1 x2 x7 x8 (decide (x8 < (x0.size : Int)))) else (caulkerref02_Under.j1 k x0 x1 x2 x7 x8 false)
def caulkerref02_Under.j1 : Nat → ByteArray → Int → Int → ByteArray → Int → Bool → Option (ByteArray)
 | 0, _, _, _, _, _, _ => none
 | k + 1, x0, x1, x2, x7, x8, x19 => if x19 = true then (if 0 ≤ x8 then (if x8 < (x0.size : Int) then (if (bt x0 x8) = 9 then (if x7.size + 1 ≤ 9223372036854775807 then (caulkerref02_Under.l0 k x0 x1 x2 (x7 ++ (⟨#[9]⟩ : ByteArray)) (wrap64 (x8 + 1))) else (none)) else (if x7.size + 1 ≤ 9223372036854775807 then (caulkerref02_Under.l0 k x0 x1 x2 (x7 ++ (⟨#[32]⟩ : ByteArray)) (wrap64 (x8 + 1))) else (none))) else (none)) else (none)) else (if x2 > (wrap64 ((x0.size : Int) - (wrap64 (x1 - 1)))) then (caulkerref02_Under.j2 k (wrap64 ((x0.size : Int) - (wrap64 (x1 - 1)))) x7) else (caulkerref02_Under.j2 k x2 x7))
def caulkerref02_Under.j2 : Nat → Int → ByteArray → Option (ByteArray)
 | 0, _, _ => none
 | k + 1, x2, x7 => if x2 < 1 then (caulkerref02_Under.j3 k 1 x7) else (caulkerref02_Under.j3 k x2 x7)
def caulkerref02_Under.j3 : Nat → Int → ByteArray → Option (ByteArray)
 | 0, _, _ => none
 | k + 1, x2, x7 => caulkerref02_Under.l1 k x2 x7 0
def caulkerref02_Under.l1 : Nat → Int → ByteArray → Int → Option (ByteArray)
 | 0, _, _, _ => none
 | k + 1, x2, x7, x9 => if x9 < x2 then (if x7.size + 1 ≤ 9223372036854775807 then (caulkerref02_Under.l1 k x2 (x7 ++ (⟨#[94]⟩ : ByteArray)) (wrap64 (x9 + 1))) else (none)) else (some x7)
end
def caulkerref02_Under.f (k : Nat) (a0 : ByteArray) (a1 : Int) (a2 : Int) : Option (ByteArray) := caulkerref02_Under.l0 k a0 a1 a2 (⟨#[]⟩ : ByteArray) 0
theorem caulkerref02_Under.mono_l : ∀ k, (∀ y0 y1 y2 y3 y4, LeO (caulkerref02_Under.l0 k y0 y1 y2 y3 y4) (caulkerref02_Under.l0 (k + 1) y0 y1 y2 y3 y4)) ∧ (∀ y0 y1 y2 y3 y4 y5, LeO (caulkerref02_Under.j1 k y0 y1 y2 y3 y4 y5) (caulkerref02_Under.j1 (k + 1) y0 y1 y2 y3 y4 y5)) ∧ (∀ y0 y1, LeO (caulkerref02_Under.j2 k y0 y1) (caulkerref02_Under.j2 (k + 1) y0 y1)) ∧ (∀ y0 y1, LeO (caulkerref02_Under.j3 k y0 y1) (caulkerref02_Under.j3 (k + 1) y0 y1)) ∧ (∀ y0 y1 y2, LeO (caulkerref02_Under.l1 k y0 y1 y2) (caulkerref02_Under.l1 (k + 1) y0 y1 y2))
 | 0 => ⟨fun _ _ _ _ _ r h => by simp [caulkerref02_Under.l0] at h, fun _ _ _ _ _ _ r h => by simp [caulkerref02_Under.j1] at h, fun _ _ r h => by simp [caulkerref02_Under.j2] at h, fun _ _ r h => by simp [caulkerref02_Under.j3] at h, fun _ _ _ r h => by simp [caulkerref02_Under.l1] at h⟩
 | k + 1 => by
  obtain ⟨ih0, ih1, ih2, ih3, ih4⟩ := caulkerref02_Under.mono_l k
  refine ⟨?_, ?_, ?_, ?_, ?_⟩
  ·intro y0 y1 y2 y3 y4
   unfold caulkerref02_Under.l0
   repeat' first
   | (with_reducible exact ih0 _ _ _ _ _)
   | (with_reducible exact ih1 _ _ _ _ _ _)
   | (with_reducible exact ih2 _ _)
   | (with_reducible exact ih3 _ _)
   | (with_reducible exact ih4 _ _ _)
   | (with_reducible exact LeO.refl _)
   | (with_reducible exact LeO.none _)
   | (with_reducible refine LeO.ite ?_ ?_)
   | (with_reducible refine LeO.bind ?_ (fun _ => ?_))
   | exact ih0 _ _ _ _ _
   | exact ih1 _ _ _ _ _ _
   | exact ih2 _ _
   | exact ih3 _ _
   | exact ih4 _ _ _
   | exact LeO.none _
   | refine LeO.ite ?_ ?_
   | refine LeO.bind ?_ (fun _ => ?_)
  ·intro y0 y1 y2 y3 y4 y5
   unfold caulkerref02_Under.j1
   repeat' first
   | (with_reducible exact ih0 _ _ _ _ _)
   | (with_reducible exact ih1 _ _ _ _ _ _)
   | (with_reducible exact ih2 _ _)
   | (with_reducible exact ih3 _ _)
   | (with_reducible exact ih4 _ _ _)
   | (with_reducible exact LeO.refl _)
   | (with_reducible exact LeO.none _)
   | (with_reducible refine LeO.ite ?_ ?_)
   | (with_reducible refine LeO.bind ?_ (fun _ => ?_))
   | exact ih0 _ _ _ _ _
   | exact ih1 _ _ _ _ _ _
   | exact ih2 _ _
   | exact ih3 _ _
   | exact ih4 _ _ _
   | exact LeO.none _
   | refine LeO.ite ?_ ?_
   | refine LeO.bind ?_ (fun _ => ?_)
  ·intro y0 y1
   unfold caulkerref02_Under.j2
   repeat' first
   | (with_reducible exact ih0 _ _ _ _ _)
   | (with_reducible exact ih1 _ _ _ _ _ _)
   | (with_reducible exact ih2 _ _)
   | (with_reducible exact ih3 _ _)
   | (with_reducible exact ih4 _ _ _)
   | (with_reducible exact LeO.refl _)
   | (with_reducible exact LeO.none _)
   | (with_reducible refine LeO.ite ?_ ?_)
   | (with_reducible refine LeO.bind ?_ (fun _ => ?_))
   | exact ih0 _ _ _ _ _
   | exact ih1 _ _ _ _ _ _
   | exact ih2 _ _
   | exact ih3 _ _
   | exact ih4 _ _ _
   | exact LeO.none _
   | refine LeO.ite ?_ ?_
   | refine LeO.bind ?_ (fun _ => ?_)
  ·intro y0 y1
   unfold caulkerref02_Under.j3
   repeat' first
   | (with_reducible exact ih0 _ _ _ _ _)
   | (with_reducible exact ih1 _ _ _ _ _ _)
   | (with_reducible exact ih2 _ _)
   | (with_reducible exact ih3 _ _)
   | (with_reducible exact ih4 _ _ _)
   | (with_reducible exact LeO.refl _)
   | (with_reducible exact LeO.none _)
   | (with_reducible refine LeO.ite ?_ ?_)
   | (with_reducible refine LeO.bind ?_ (fun _ => ?_))
   | exact ih0 _ _ _ _ _
   | exact ih1 _ _ _ _ _ _
   | exact ih2 _ _
   | exact ih3 _ _
   | exact ih4 _ _ _
   | exact LeO.none _
   | refine LeO.ite ?_ ?_
   | refine LeO.bind ?_ (fun _ => ?_)
  ·intro y0 y1 y2
   unfold caulkerref02_Under.l1
   repeat' first
   | (with_reducible exact ih0 _ _ _ _ _)
   | (with_reducible exact ih1 _ _ _ _ _ _)
   | (with_reducible exact ih2 _ _)
   | (with_reducible exact ih3 _ _)
   | (with_reducible exact ih4 _ _ _)
   | (with_reducible exact LeO.refl _)
   | (with_reducible exact LeO.none _)
   | (with_reducible refine LeO.ite ?_ ?_)
   | (with_reducible refine LeO.bind ?_ (fun _ => ?_))
   | exact ih0 _ _ _ _ _
   | exact ih1 _ _ _ _ _ _
   | exact ih2 _ _
   | exact ih3 _ _
   | exact ih4 _ _ _
   | exact LeO.none _
   | refine LeO.ite ?_ ?_
   | refine LeO.bind ?_ (fun _ => ?_)
theorem caulkerref02_Under.mono : ∀ a0 a1 a2 k, LeO (caulkerref02_Under.f k a0 a1 a2) (caulkerref02_Under.f (k + 1) a0 a1 a2) := by
 intro a0 a1 a2 k
 obtain ⟨ih0, ih1, ih2, ih3, ih4⟩ := caulkerref02_Under.mono_l k
 unfold caulkerref02_Under.f
 repeat' first
   | (with_reducible exact ih0 _ _ _ _ _)
   | (with_reducible exact ih1 _ _ _ _ _ _)
   | (with_reducible exact ih2 _ _)
   | (with_reducible exact ih3 _ _)
   | (with_reducible exact ih4 _ _ _)
   | (with_reducible exact LeO.refl _)
   | (with_reducible exact LeO.none _)
   | (with_reducible refine LeO.ite ?_ ?_)
   | (with_reducible refine LeO.bind ?_ (fun _ => ?_))
   | exact ih0 _ _ _ _ _
   | exact ih1 _ _ _ _ _ _
   | exact ih2 _ _
   | exact ih3 _ _
   | exact ih4 _ _ _
   | exact LeO.none _
   | refine LeO.ite ?_ ?_
   | refine LeO.bind ?_ (fun _ => ?_)
set_option maxHeartbeats 8000000 in
set_option maxRecDepth 100000 in
theorem caulkerref02_Under.calls (k : Nat) (a0 : ByteArray) (a1 : Int) (a2 : Int) (r : ByteArray) (w : World) (h : caulkerref02_Under.f k a0 a1 a2 = some r) :
  Calls Tryd.prog 29 #[.string a0, .int .i64 a1, .int .i64 a2] w fun e w' => e = .returned (.string r) ∧ Drawn0 w w' := by
 have H : (caulkerref02_Under.l0 k a0 a1 a2 (⟨#[]⟩ : ByteArray) 0) = some r := h
 clear h
 have H' := Aside0.mk H
 clear H
 go_enter Tryd.func29, Tryd.ntmps29
 go_wp2
 go_loopg [7, 8] k (fun kq v7 v8 w' => ∃ (x7_1 : ByteArray) (x8_1 : Int), v7 = .string x7_1 ∧ v8 = .int .i64 x8_1 ∧ Aside0 (caulkerref02_Under.l0 kq a0 a1 a2 x7_1 x8_1 = some r) ∧ Aside0 (kq ≤ k) ∧ Drawn0 w w')
 case atStart => exact ⟨((⟨#[]⟩ : ByteArray)), (0), (by first | rfl | (simp; done) | (simp [*]; done)), (by first | rfl | (simp; done) | (simp [*]; done)), H', ⟨Nat.le_refl _⟩, by repeat (first | exact Drawn0.refl _ | apply Drawn0.step)⟩
 case round =>
  clear H'
  (try clear c2); (try clear p2)
  obtain ⟨x7_1, x8_1, rfl, rfl, HA, HK1, ⟨m1, rfl⟩⟩ := hrel
  cases gk with
  | zero => exact absurd HA.out (by simp [caulkerref02_Under.l0])
  | succ k1 =>
   have H := HA.out
   clear HA
   simp only [caulkerref02_Under.l0] at H
   have HC4 := Aside0.mk H
   clear H
   go_upto_region 3 with (fail)
   go_cut [19] (fun v19 wc => ∃ (kq : Nat) (x19_3 : Bool), v19 = .bool x19_3 ∧ Aside0 (caulkerref02_Under.j1 kq a0 a1 a2 x7_1 x8_1 x19_3 = some r) ∧ Aside0 (kq ≤ k1) ∧ Drawn0 w wc)
   case first =>
    have H := HC4.out
    clear HC4
    by_cases c5 : x8_1 < (wrap64 (a1 - 1))
    ·rw [if_pos c5] at H
     have c5b0 : decide (x8_1 < (wrap64 (a1 - 1))) = true := decide_eq_true c5
     clear c5
     (first | rw [c5b0] | (simp only [i64_w, i32_w]; rw [c5b0]) | skip)
     have H' := Aside0.mk H
     clear H
     go_wp2
     go_meet
     case rel => exact ⟨_, (decide (x8_1 < (a0.size : Int))), (by first | rfl | (simp; done) | (simp [*]; done)), H', ⟨by have := HK1.out; first | omega | exact Nat.le_refl _⟩, by repeat (first | exact Drawn0.refl _ | apply Drawn0.step)⟩
    ·rw [if_neg c5] at H
     have c5b0 : decide (x8_1 < (wrap64 (a1 - 1))) = false := decide_eq_false c5
     clear c5
     (first | rw [c5b0] | (simp only [i64_w, i32_w]; rw [c5b0]) | skip)
     have H' := Aside0.mk H
     clear H
     go_wp2
     go_meet
     case rel => exact ⟨_, (false), (by first | rfl | (simp; done) | (simp [*]; done)), H', ⟨by have := HK1.out; first | omega | exact Nat.le_refl _⟩, by repeat (first | exact Drawn0.refl _ | apply Drawn0.step)⟩
   case rest =>
    clear HC4
    (try clear c2); (try clear p2); (try clear c5); (try clear c5b0)
    obtain ⟨kq, x19_3, rfl, HA, HJ3, ⟨mc3, rfl⟩⟩ := hcut
    cases kq with
    | zero => exact absurd HA.out (by simp [caulkerref02_Under.j1])
    | succ kj3 =>
     have H := HA.out
     clear HA
     simp only [caulkerref02_Under.j1] at H
     by_cases c6 : x19_3 = true
     ·subst c6
      have H1 : (if 0 ≤ x8_1 then (if x8_1 < (a0.size : Int) then (if (bt a0 x8_1) = 9 then (if x7_1.size + 1 ≤ 9223372036854775807 then (caulkerref02_Under.l0 kj3 a0 a1 a2 (x7_1 ++ (⟨#[9]⟩ : ByteArray)) (wrap64 (x8_1 + 1))) else (none)) else (if x7_1.size + 1 ≤ 9223372036854775807 then (caulkerref02_Under.l0 kj3 a0 a1 a2 (x7_1 ++ (⟨#[32]⟩ : ByteArray)) (wrap64 (x8_1 + 1))) else (none))) else (none)) else (none)) = some r := by rw [if_pos rfl] at H; exact H
      clear H
      have H := H1
      clear H1
      by_cases c7 : 0 ≤ x8_1
      ·rw [if_pos c7] at H
       have c7b0 : decide (0 ≤ x8_1) = true := decide_eq_true c7
       clear c7
       by_cases c8 : x8_1 < (a0.size : Int)
       ·rw [if_pos c8] at H
        have c8b0 : decide (x8_1 < (a0.size : Int)) = true := decide_eq_true c8
        clear c8
        by_cases c10 : (bt a0 x8_1) = 9
        ·rw [if_pos c10] at H
         have c10b0 : ((bt a0 x8_1) == 9) = true := beq_iff_eq.mpr c10
         have c10b1 : ((bt a0 x8_1) != 9) = false := bne_eq_false_iff_eq.mpr c10
         clear c10
         by_cases c11 : x7_1.size + 1 ≤ 9223372036854775807
         ·rw [if_pos c11] at H
          have c11b0 := eq_true c11
          have c11b1 : decide (x7_1.size + 1 ≤ 9223372036854775807) = true := decide_eq_true c11
          try have c11b2 : (9223372036854775807 < x7_1.size + 1) = False := eq_false (Nat.not_lt.2 c11)
          have H' := Aside0.mk H
          clear H
          have p9 : 0 ≤ (x8_1 : Int) := pxd
          have q9 : x8_1 < (a0.size : Int) := pxd
          have hx9 := bt_at a0 x8_1
          replace p9 := eq_true p9
          replace q9 := eq_true q9
          go_wp2
          go_roundg kj3
          case measure => have := HK1.out; have := HJ3.out; omega
          case rel => exact ⟨(x7_1 ++ (⟨#[9]⟩ : ByteArray)), (wrap64 (x8_1 + 1)), (by first | rfl | (simp; done) | (simp [*]; done)), (by first | rfl | (simp; done) | (simp [*]; done)), H', ⟨by have := HK1.out; have := HJ3.out; omega⟩, by repeat (first | exact Drawn0.refl _ | apply Drawn0.step)⟩
         ·rw [if_neg c11] at H
          exact absurd H (by simp)
        ·rw [if_neg c10] at H
         have c10b0 : ((bt a0 x8_1) == 9) = false := beq_eq_false_iff_ne.mpr c10
         have c10b1 : ((bt a0 x8_1) != 9) = true := bne_iff_ne.mpr c10
         by_cases c12 : x7_1.size + 1 ≤ 9223372036854775807
         ·rw [if_pos c12] at H
          have c12b0 := eq_true c12
          have c12b1 : decide (x7_1.size + 1 ≤ 9223372036854775807) = true := decide_eq_true c12
          try have c12b2 : (9223372036854775807 < x7_1.size + 1) = False := eq_false (Nat.not_lt.2 c12)
          have H' := Aside0.mk H
          clear H
          have p9 : 0 ≤ (x8_1 : Int) := pxd
          have q9 : x8_1 < (a0.size : Int) := pxd
          have hx9 := bt_at a0 x8_1
          replace p9 := eq_true p9
          replace q9 := eq_true q9
          go_wp2
          go_roundg kj3
          case measure => have := HK1.out; have := HJ3.out; omega
          case rel => exact ⟨(x7_1 ++ (⟨#[32]⟩ : ByteArray)), (wrap64 (x8_1 + 1)), (by first | rfl | (simp; done) | (simp [*]; done)), (by first | rfl | (simp; done) | (simp [*]; done)), H', ⟨by have := HK1.out; have := HJ3.out; omega⟩, by repeat (first | exact Drawn0.refl _ | apply Drawn0.step)⟩
         ·rw [if_neg c12] at H
          exact absurd H (by simp)
       ·rw [if_neg c8] at H
        exact absurd H (by simp)
      ·rw [if_neg c7] at H
       exact absurd H (by simp)
     ·replace c6 := Bool.eq_false_iff.mpr c6
      subst c6
      have H1 : (if a2 > (wrap64 ((a0.size : Int) - (wrap64 (a1 - 1)))) then (caulkerref02_Under.j2 kj3 (wrap64 ((a0.size : Int) - (wrap64 (a1 - 1)))) x7_1) else (caulkerref02_Under.j2 kj3 a2 x7_1)) = some r := by rw [if_neg (show ¬ (false = true) by decide)] at H; exact H
      clear H
      have H := H1
      clear H1
      have HC13 := Aside0.mk H
      clear H
      go_upto_if 36 with (fail)
      go_cut [2] (fun v2 wc => ∃ (kq : Nat) (x2_12 : Int), v2 = .int .i64 x2_12 ∧ Aside0 (caulkerref02_Under.j2 kq x2_12 x7_1 = some r) ∧ Aside0 (kq ≤ kj3) ∧ Drawn0 w wc)
      case first =>
       have H := HC13.out
       clear HC13
       by_cases c14 : a2 > (wrap64 ((a0.size : Int) - (wrap64 (a1 - 1))))
       ·rw [if_pos c14] at H
        have c14b0 : decide ((wrap64 ((a0.size : Int) - (wrap64 (a1 - 1)))) < a2) = true := decide_eq_true c14
        clear c14
        (first | rw [c14b0] | (simp only [i64_w, i32_w]; rw [c14b0]) | skip)
        have H' := Aside0.mk H
        clear H
        go_wp2
        go_meet
        case rel => exact ⟨_, (wrap64 ((a0.size : Int) - (wrap64 (a1 - 1)))), (by first | rfl | (simp; done) | (simp [*]; done)), H', ⟨by have := HK1.out; have := HJ3.out; first | omega | exact Nat.le_refl _⟩, by repeat (first | exact Drawn0.refl _ | apply Drawn0.step)⟩
       ·rw [if_neg c14] at H
        have c14b0 : decide ((wrap64 ((a0.size : Int) - (wrap64 (a1 - 1)))) < a2) = false := decide_eq_false c14
        clear c14
        (first | rw [c14b0] | (simp only [i64_w, i32_w]; rw [c14b0]) | skip)
        have H' := Aside0.mk H
        clear H
        go_wp2
        go_meet
        case rel => exact ⟨_, (a2), (by first | rfl | (simp; done) | (simp [*]; done)), H', ⟨by have := HK1.out; have := HJ3.out; first | omega | exact Nat.le_refl _⟩, by repeat (first | exact Drawn0.refl _ | apply Drawn0.step)⟩
      case rest =>
       clear HC13
       (try clear c1); (try clear c2); (try clear p2); (try clear c3); (try clear c5); (try clear c5b0); (try clear c6); (try clear p6); (try clear c7); (try clear c7b0); (try clear c8); (try clear c8b0); (try clear p9); (try clear q9); (try clear hx9); (try clear c10); (try clear c10b0); (try clear c10b1); (try clear c11); (try clear c11b0); (try clear c11b1); (try clear c11b2); (try clear c12); (try clear c12b0); (try clear c12b1); (try clear c12b2); (try clear c14); (try clear c14b0)
       obtain ⟨kq, x2_12, rfl, HA, HJ12, ⟨mc12, rfl⟩⟩ := hcut
       cases kq with
       | zero => exact absurd HA.out (by simp [caulkerref02_Under.j2])
       | succ kj12 =>
        have H := HA.out
        clear HA
        simp only [caulkerref02_Under.j2] at H
        have HC15 := Aside0.mk H
        clear H
        go_upto_if 43 with (fail)
        go_cut [2] (fun v2 wc => ∃ (kq : Nat) (x2_14 : Int), v2 = .int .i64 x2_14 ∧ Aside0 (caulkerref02_Under.j3 kq x2_14 x7_1 = some r) ∧ Aside0 (kq ≤ kj12) ∧ Drawn0 w wc)
        case first =>
         have H := HC15.out
         clear HC15
         by_cases c16 : x2_12 < 1
         ·rw [if_pos c16] at H
          have c16b0 : decide (x2_12 < 1) = true := decide_eq_true c16
          clear c16
          (first | rw [c16b0] | (simp only [i64_w, i32_w]; rw [c16b0]) | skip)
          have H' := Aside0.mk H
          clear H
          go_wp2
          go_meet
          case rel => exact ⟨_, (1), (by first | rfl | (simp; done) | (simp [*]; done)), H', ⟨by have := HK1.out; have := HJ3.out; have := HJ12.out; first | omega | exact Nat.le_refl _⟩, by repeat (first | exact Drawn0.refl _ | apply Drawn0.step)⟩
         ·rw [if_neg c16] at H
          have c16b0 : decide (x2_12 < 1) = false := decide_eq_false c16
          clear c16
          (first | rw [c16b0] | (simp only [i64_w, i32_w]; rw [c16b0]) | skip)
          have H' := Aside0.mk H
          clear H
          go_wp2
          go_meet
          case rel => exact ⟨_, (x2_12), (by first | rfl | (simp; done) | (simp [*]; done)), H', ⟨by have := HK1.out; have := HJ3.out; have := HJ12.out; first | omega | exact Nat.le_refl _⟩, by repeat (first | exact Drawn0.refl _ | apply Drawn0.step)⟩
        case rest =>
         clear HC15
         (try clear c1); (try clear c2); (try clear p2); (try clear c3); (try clear c5); (try clear c5b0); (try clear c6); (try clear p6); (try clear c7); (try clear c7b0); (try clear c8); (try clear c8b0); (try clear p9); (try clear q9); (try clear hx9); (try clear c10); (try clear c10b0); (try clear c10b1); (try clear c11); (try clear c11b0); (try clear c11b1); (try clear c11b2); (try clear c12); (try clear c12b0); (try clear c12b1); (try clear c12b2); (try clear c14); (try clear c14b0); (try clear c16); (try clear c16b0)
         obtain ⟨kq, x2_14, rfl, HA, HJ14, ⟨mc14, rfl⟩⟩ := hcut
         cases kq with
         | zero => exact absurd HA.out (by simp [caulkerref02_Under.j3])
         | succ kj14 =>
          have H := HA.out
          clear HA
          simp only [caulkerref02_Under.j3] at H
          have H' := Aside0.mk H
          clear H
          go_wp2
          go_loopg [7, 9] kj14 (fun kq v7 v9 w' => ∃ (x7_5 : ByteArray) (x9_5 : Int), v7 = .string x7_5 ∧ v9 = .int .i64 x9_5 ∧ Aside0 (caulkerref02_Under.l1 kq x2_14 x7_5 x9_5 = some r) ∧ Aside0 (kq ≤ kj14) ∧ Drawn0 w w')
          case atStart => exact ⟨(x7_1), (0), (by first | rfl | (simp; done) | (simp [*]; done)), (by first | rfl | (simp; done) | (simp [*]; done)), H', ⟨Nat.le_refl _⟩, by repeat (first | exact Drawn0.refl _ | apply Drawn0.step)⟩
          case round =>
           clear H'
           (try clear c1); (try clear c2); (try clear p2); (try clear c3); (try clear c5); (try clear c5b0); (try clear c6); (try clear p6); (try clear c7); (try clear c7b0); (try clear c8); (try clear c8b0); (try clear p9); (try clear q9); (try clear hx9); (try clear c10); (try clear c10b0); (try clear c10b1); (try clear c11); (try clear c11b0); (try clear c11b1); (try clear c11b2); (try clear c12); (try clear c12b0); (try clear c12b1); (try clear c12b2); (try clear c14); (try clear c14b0); (try clear c16); (try clear c16b0)
           obtain ⟨x7_5, x9_5, rfl, rfl, HA, HK5, ⟨m5, rfl⟩⟩ := hrel
           cases gk with
           | zero => exact absurd HA.out (by simp [caulkerref02_Under.l1])
           | succ k5 =>
            have H := HA.out
            clear HA
            simp only [caulkerref02_Under.l1] at H
            by_cases c17 : x9_5 < x2_14
            ·rw [if_pos c17] at H
             have c17b0 : decide (x9_5 < x2_14) = true := decide_eq_true c17
             clear c17
             by_cases c18 : x7_5.size + 1 ≤ 9223372036854775807
             ·rw [if_pos c18] at H
              have c18b0 := eq_true c18
              have c18b1 : decide (x7_5.size + 1 ≤ 9223372036854775807) = true := decide_eq_true c18
              try have c18b2 : (9223372036854775807 < x7_5.size + 1) = False := eq_false (Nat.not_lt.2 c18)
              have H' := Aside0.mk H
              clear H
              go_wp2
              go_roundg k5
              case measure => have := HK1.out; have := HJ3.out; have := HJ12.out; have := HJ14.out; have := HK5.out; omega
              case rel => exact ⟨(x7_5 ++ (⟨#[94]⟩ : ByteArray)), (wrap64 (x9_5 + 1)), (by first | rfl | (simp; done) | (simp [*]; done)), (by first | rfl | (simp; done) | (simp [*]; done)), H', ⟨by have := HK1.out; have := HJ3.out; have := HJ12.out; have := HJ14.out; have := HK5.out; omega⟩, by repeat (first | exact Drawn0.refl _ | apply Drawn0.step)⟩
             ·rw [if_neg c18] at H
              exact absurd H (by simp)
            ·rw [if_neg c17] at H
             have c17b0 : decide (x9_5 < x2_14) = false := decide_eq_false c17
             clear c17
             obtain rfl := Option.some.inj H
             go_wp2
             go_ret
             exact ⟨by first | rfl | (simp; done) | (simp [*]; done), by repeat (first | exact Drawn0.refl _ | apply Drawn0.step)⟩

end Go.Proofs.YtimhbepecnmjeaaDoor.X
