/- What the program's functions answer, as Lean functions, and that each call does just that; no condition. Written by a program (px.py) out of the translation. -/
import Derived.Test.YtbnopcndjdpnkaaDoorX0
namespace Go.Proofs.YtbnopcndjdpnkaaDoor.X
open Go.RowKit Go.Proofs.YtbnopcndjdpnkaaDoorW.PrintWords Go.Proofs.YtbnopcndjdpnkaaDoorW.PrintLast Go.Proofs.YtbnopcndjdpnkaaDoorW.PrintMore
attribute [local go_sem] max2_int min2_int max_two min_two max_three min_three max_four min_four   -- for this text's walks alone
set_option linter.unusedVariables false
set_option linter.unusedSimpArgs false

/-! ### num_Op: function 21 -/
def num_Op.j0 : Nat → ByteArray → Int → Int → Bool → Option (Int × Int)
 | 0, _, _, _, _ => none
 | k + 1, x0, x1, x2, x24 => if x24 = true then (if x2 = 0 then (some (0, 1)) else (if x2 = (-1) then (if x0.toList = ([37] : List UInt8) then (some (0, 0)) else (some (wrap64 (-x1), 0))) else (if x0.toList = ([47] : List UInt8) then (some (wrap64 (Int.tdiv x1 x2), 0)) else (some (Int.tmod x1 x2, 0))))) else (some (0, 3))
def num_Op.f (k : Nat) (a0 : ByteArray) (a1 : Int) (a2 : Int) : Option (Int × Int) := if a0.toList = ([43] : List UInt8) then (some (wrap64 (a1 + a2), 0)) else (if a0.toList = ([45] : List UInt8) then (some (wrap64 (a1 - a2), 0)) else (if a0.toList = ([42] : List UInt8) then (some (wrap64 (a1 * a2), 0)) else (if a0.toList = ([47] : List UInt8) then (num_Op.j0 k a0 a1 a2 (a0.toList == ([47] : List UInt8))) else (num_Op.j0 k a0 a1 a2 (a0.toList == ([37] : List UInt8))))))
theorem num_Op.mono_l : ∀ k, (∀ y0 y1 y2 y3, LeO (num_Op.j0 k y0 y1 y2 y3) (num_Op.j0 (k + 1) y0 y1 y2 y3))
 | 0 => fun _ _ _ _ r h => by simp [num_Op.j0] at h
 | k + 1 => by
  have ih0 := num_Op.mono_l k
  ·intro y0 y1 y2 y3
   unfold num_Op.j0
   repeat' first
   | (with_reducible exact ih0 _ _ _ _)
   | (with_reducible exact LeO.refl _)
   | (with_reducible exact LeO.none _)
   | (with_reducible refine LeO.ite ?_ ?_)
   | (with_reducible refine LeO.bind ?_ (fun _ => ?_))
   | exact ih0 _ _ _ _
   | exact LeO.none _
   | refine LeO.ite ?_ ?_
   | refine LeO.bind ?_ (fun _ => ?_)
theorem num_Op.mono : ∀ a0 a1 a2 k, LeO (num_Op.f k a0 a1 a2) (num_Op.f (k + 1) a0 a1 a2) := by
 intro a0 a1 a2 k
 have ih0 := num_Op.mono_l k
 unfold num_Op.f
 repeat' first
   | (with_reducible exact ih0 _ _ _ _)
   | (with_reducible exact LeO.refl _)
   | (with_reducible exact LeO.none _)
   | (with_reducible refine LeO.ite ?_ ?_)
   | (with_reducible refine LeO.bind ?_ (fun _ => ?_))
   | exact ih0 _ _ _ _
   | exact LeO.none _
   | refine LeO.ite ?_ ?_
   | refine LeO.bind ?_ (fun _ => ?_)
set_option maxHeartbeats 8000000 in
set_option maxRecDepth 100000 in
theorem num_Op.calls (k : Nat) (a0 : ByteArray) (a1 : Int) (a2 : Int) (r1 : Int) (r2 : Int) (w : World) (h : num_Op.f k a0 a1 a2 = some (r1, r2)) :
  Calls Tryd.prog 21 #[.string a0, .int .i64 a1, .int .i64 a2] w fun e w' => e = .returned (.tuple #[.int .i64 r1, .int .i64 r2]) ∧ Drawn0 w w' := by
 have H : (if a0.toList = ([43] : List UInt8) then (some (wrap64 (a1 + a2), 0)) else (if a0.toList = ([45] : List UInt8) then (some (wrap64 (a1 - a2), 0)) else (if a0.toList = ([42] : List UInt8) then (some (wrap64 (a1 * a2), 0)) else (if a0.toList = ([47] : List UInt8) then (num_Op.j0 k a0 a1 a2 (a0.toList == ([47] : List UInt8))) else (num_Op.j0 k a0 a1 a2 (a0.toList == ([37] : List UInt8))))))) = some (r1, r2) := h
 clear h
 by_cases c4 : a0.toList = ([43] : List UInt8)
 ·rw [if_pos c4] at H
  have c4b0 : (a0.toList == ([43] : List UInt8)) = true := beq_iff_eq.mpr c4
  have c4b1 : (a0.toList != ([43] : List UInt8)) = false := bne_eq_false_iff_eq.mpr c4
  clear c4
  simp only [Option.some.injEq, Prod.mk.injEq] at H
  obtain ⟨rfl, rfl⟩ := H
  go_enter Tryd.func21, Tryd.ntmps21
  go_wp2
  go_ret2
  exact ⟨by first | rfl | (simp; done) | (simp [*]; done), by repeat (first | exact Drawn0.refl _ | apply Drawn0.step)⟩
 ·rw [if_neg c4] at H
  have c4b0 : (a0.toList == ([43] : List UInt8)) = false := beq_eq_false_iff_ne.mpr c4
  have c4b1 : (a0.toList != ([43] : List UInt8)) = true := bne_iff_ne.mpr c4
  by_cases c5 : a0.toList = ([45] : List UInt8)
  ·rw [if_pos c5] at H
   have c5b0 : (a0.toList == ([45] : List UInt8)) = true := beq_iff_eq.mpr c5
   have c5b1 : (a0.toList != ([45] : List UInt8)) = false := bne_eq_false_iff_eq.mpr c5
   clear c5
   simp only [Option.some.injEq, Prod.mk.injEq] at H
   obtain ⟨rfl, rfl⟩ := H
   go_enter Tryd.func21, Tryd.ntmps21
   go_wp2
   go_ret2
   exact ⟨by first | rfl | (simp; done) | (simp [*]; done), by repeat (first | exact Drawn0.refl _ | apply Drawn0.step)⟩
  ·rw [if_neg c5] at H
   have c5b0 : (a0.toList == ([45] : List UInt8)) = false := beq_eq_false_iff_ne.mpr c5
   have c5b1 : (a0.toList != ([45] : List UInt8)) = true := bne_iff_ne.mpr c5
   by_cases c6 : a0.toList = ([42] : List UInt8)
   ·rw [if_pos c6] at H
    have c6b0 : (a0.toList == ([42] : List UInt8)) = true := beq_iff_eq.mpr c6
    have c6b1 : (a0.toList != ([42] : List UInt8)) = false := bne_eq_false_iff_eq.mpr c6
    clear c6
    simp only [Option.some.injEq, Prod.mk.injEq] at H
    obtain ⟨rfl, rfl⟩ := H
    go_enter Tryd.func21, Tryd.ntmps21
    go_wp2
    go_ret2
    exact ⟨by first | rfl | (simp; done) | (simp [*]; done), by repeat (first | exact Drawn0.refl _ | apply Drawn0.step)⟩
   ·rw [if_neg c6] at H
    have c6b0 : (a0.toList == ([42] : List UInt8)) = false := beq_eq_false_iff_ne.mpr c6
    have c6b1 : (a0.toList != ([42] : List UInt8)) = true := bne_iff_ne.mpr c6
    have HC7 := Aside0.mk H
    clear H
    go_enter Tryd.func21, Tryd.ntmps21
    go_upto_if 24 with (fail)
    go_cut [24] (fun v24 wc => ∃ (kq : Nat) (x24_6 : Bool), v24 = .bool x24_6 ∧ Aside0 (num_Op.j0 kq a0 a1 a2 x24_6 = some (r1, r2)) ∧ Aside0 (kq ≤ k) ∧ Drawn0 w wc)
    case first =>
     have H := HC7.out
     clear HC7
     by_cases c8 : a0.toList = ([47] : List UInt8)
     ·rw [if_pos c8] at H
      have c8b0 : (a0.toList == ([47] : List UInt8)) = true := beq_iff_eq.mpr c8
      have c8b1 : (a0.toList != ([47] : List UInt8)) = false := bne_eq_false_iff_eq.mpr c8
      clear c8
      (first | rw [c8b0] | (simp only [i64_w, i32_w]; rw [c8b0]) | skip)
      have H' := Aside0.mk H
      clear H
      go_wp2
      go_meet
      case rel => exact ⟨_, ((a0.toList == ([47] : List UInt8))), (by first | rfl | (simp; done) | (simp [*]; done)), H', ⟨by first | omega | exact Nat.le_refl _⟩, by repeat (first | exact Drawn0.refl _ | apply Drawn0.step)⟩
     ·rw [if_neg c8] at H
      have c8b0 : (a0.toList == ([47] : List UInt8)) = false := beq_eq_false_iff_ne.mpr c8
      have c8b1 : (a0.toList != ([47] : List UInt8)) = true := bne_iff_ne.mpr c8
      (first | rw [c8b0] | (simp only [i64_w, i32_w]; rw [c8b0]) | skip)
      have H' := Aside0.mk H
      clear H
      go_wp2
      go_meet
      case rel => exact ⟨_, ((a0.toList == ([37] : List UInt8))), (by first | rfl | (simp; done) | (simp [*]; done)), H', ⟨by first | omega | exact Nat.le_refl _⟩, by repeat (first | exact Drawn0.refl _ | apply Drawn0.step)⟩
    case rest =>
     clear HC7
     try clear c2
     try clear p2
     try clear c4
     try clear c4b0
     try clear c4b1
     try clear c5
     try clear c5b0
     try clear c5b1
     try clear c6
     try clear c6b0
     try clear c6b1
     try clear p6
     try clear c8
     try clear c8b0
     try clear c8b1
     obtain ⟨kq, x24_6, rfl, HA, HJ6, ⟨mc6, rfl⟩⟩ := hcut
     cases kq with
     | zero => exact absurd HA.out (by simp [num_Op.j0])
     | succ kj6 =>
      have H := HA.out
      clear HA
      simp only [num_Op.j0] at H
      by_cases c9 : x24_6 = true
      ·subst c9
       have H1 : (if a2 = 0 then (some (0, 1)) else (if a2 = (-1) then (if a0.toList = ([37] : List UInt8) then (some (0, 0)) else (some (wrap64 (-a1), 0))) else (if a0.toList = ([47] : List UInt8) then (some (wrap64 (Int.tdiv a1 a2), 0)) else (some (Int.tmod a1 a2, 0))))) = some (r1, r2) := by rw [if_pos rfl] at H; exact H
       clear H
       have H := H1
       clear H1
       by_cases c10 : a2 = 0
       ·rw [if_pos c10] at H
        have c10b0 : (a2 == 0) = true := beq_iff_eq.mpr c10
        have c10b1 : (a2 != 0) = false := bne_eq_false_iff_eq.mpr c10
        clear c10
        simp only [Option.some.injEq, Prod.mk.injEq] at H
        obtain ⟨rfl, rfl⟩ := H
        go_wp2
        go_ret2
        exact ⟨by first | rfl | (simp; done) | (simp [*]; done), by repeat (first | exact Drawn0.refl _ | apply Drawn0.step)⟩
       ·rw [if_neg c10] at H
        have c10b0 : (a2 == 0) = false := beq_eq_false_iff_ne.mpr c10
        have c10b1 : (a2 != 0) = true := bne_iff_ne.mpr c10
        by_cases c11 : a2 = (-1)
        ·rw [if_pos c11] at H
         have c11b0 : (a2 == (-1)) = true := beq_iff_eq.mpr c11
         have c11b1 : (a2 != (-1)) = false := bne_eq_false_iff_eq.mpr c11
         clear c11
         by_cases c12 : a0.toList = ([37] : List UInt8)
         ·rw [if_pos c12] at H
          have c12b0 : (a0.toList == ([37] : List UInt8)) = true := beq_iff_eq.mpr c12
          have c12b1 : (a0.toList != ([37] : List UInt8)) = false := bne_eq_false_iff_eq.mpr c12
          clear c12
          simp only [Option.some.injEq, Prod.mk.injEq] at H
          obtain ⟨rfl, rfl⟩ := H
          go_wp2
          go_ret2
          exact ⟨by first | rfl | (simp; done) | (simp [*]; done), by repeat (first | exact Drawn0.refl _ | apply Drawn0.step)⟩
         ·rw [if_neg c12] at H
          have c12b0 : (a0.toList == ([37] : List UInt8)) = false := beq_eq_false_iff_ne.mpr c12
          have c12b1 : (a0.toList != ([37] : List UInt8)) = true := bne_iff_ne.mpr c12
          simp only [Option.some.injEq, Prod.mk.injEq] at H
          obtain ⟨rfl, rfl⟩ := H
          go_wp2
          go_ret2
          exact ⟨by first | rfl | (simp; done) | (simp [*]; done), by repeat (first | exact Drawn0.refl _ | apply Drawn0.step)⟩
        ·rw [if_neg c11] at H
         have c11b0 : (a2 == (-1)) = false := beq_eq_false_iff_ne.mpr c11
         have c11b1 : (a2 != (-1)) = true := bne_iff_ne.mpr c11
         by_cases c13 : a0.toList = ([47] : List UInt8)
         ·rw [if_pos c13] at H
          have c13b0 : (a0.toList == ([47] : List UInt8)) = true := beq_iff_eq.mpr c13
          have c13b1 : (a0.toList != ([47] : List UInt8)) = false := bne_eq_false_iff_eq.mpr c13
          clear c13
          simp only [Option.some.injEq, Prod.mk.injEq] at H
          obtain ⟨rfl, rfl⟩ := H
          go_wp2
          go_ret2
          exact ⟨by first | rfl | (simp; done) | (simp [*]; done), by repeat (first | exact Drawn0.refl _ | apply Drawn0.step)⟩
         ·rw [if_neg c13] at H
          have c13b0 : (a0.toList == ([47] : List UInt8)) = false := beq_eq_false_iff_ne.mpr c13
          have c13b1 : (a0.toList != ([47] : List UInt8)) = true := bne_iff_ne.mpr c13
          simp only [Option.some.injEq, Prod.mk.injEq] at H
          obtain ⟨rfl, rfl⟩ := H
          go_wp2
          go_ret2
          exact ⟨by first | rfl | (simp; done) | (simp [*]; done), by repeat (first | exact Drawn0.refl _ | apply Drawn0.step)⟩
      ·replace c9 := Bool.eq_false_iff.mpr c9
       subst c9
       have H1 : (some (0, 3)) = some (r1, r2) := by rw [if_neg (show ¬ (false = true) by decide)] at H; exact H
       clear H
       have H := H1
       clear H1
       simp only [Option.some.injEq, Prod.mk.injEq] at H
       obtain ⟨rfl, rfl⟩ := H
       go_wp2
       go_ret2
       exact ⟨by first | rfl | (simp; done) | (simp [*]; done), by repeat (first | exact Drawn0.refl _ | apply Drawn0.step)⟩

end Go.Proofs.YtbnopcndjdpnkaaDoor.X
