/- What the program's functions answer, as Lean functions, and that each call does just that; no condition. Written by a program (px.py) out of the translation. -/
import Derived.Test.YtbnopcndjdpnkaaDoorX0
namespace Go.Proofs.YtbnopcndjdpnkaaDoor.X
open Go.RowKit Go.Proofs.YtbnopcndjdpnkaaDoorW.PrintWords Go.Proofs.YtbnopcndjdpnkaaDoorW.PrintLast Go.Proofs.YtbnopcndjdpnkaaDoorW.PrintMore
attribute [local go_sem] max2_int min2_int max_two min_two max_three min_three max_four min_four   -- for this text's walks alone
set_option linter.unusedVariables false
set_option linter.unusedSimpArgs false

/-! ### num_holds: function 39 -/
def num_holds.f (a0 : ByteArray) (a1 : Bool) (a2 : Bool) (a3 : Bool) : Option (Bool × Int) := if a0.toList = ([61, 61] : List UInt8) then (some (a2, 0)) else (if a0.toList = ([33, 61] : List UInt8) then (some (!a2, 0)) else (if a0.toList = ([60] : List UInt8) then (some (a1, 0)) else (if a0.toList = ([60, 61] : List UInt8) then (if a1 = true then (some (true, 0)) else (some (a2, 0))) else (if a0.toList = ([62] : List UInt8) then (some (a3, 0)) else (if a0.toList = ([62, 61] : List UInt8) then (if a3 = true then (some (true, 0)) else (some (a2, 0))) else (some (false, 3)))))))
set_option maxHeartbeats 8000000 in
set_option maxRecDepth 100000 in
theorem num_holds.calls (a0 : ByteArray) (a1 : Bool) (a2 : Bool) (a3 : Bool) (r1 : Bool) (r2 : Int) (w : World) (h : num_holds.f a0 a1 a2 a3 = some (r1, r2)) :
  Calls Tryd.prog 39 #[.string a0, .bool a1, .bool a2, .bool a3] w fun e w' => e = .returned (.tuple #[.bool r1, .int .i64 r2]) ∧ Drawn0 w w' := by
 have H : (if a0.toList = ([61, 61] : List UInt8) then (some (a2, 0)) else (if a0.toList = ([33, 61] : List UInt8) then (some (!a2, 0)) else (if a0.toList = ([60] : List UInt8) then (some (a1, 0)) else (if a0.toList = ([60, 61] : List UInt8) then (if a1 = true then (some (true, 0)) else (some (a2, 0))) else (if a0.toList = ([62] : List UInt8) then (some (a3, 0)) else (if a0.toList = ([62, 61] : List UInt8) then (if a3 = true then (some (true, 0)) else (some (a2, 0))) else (some (false, 3)))))))) = some (r1, r2) := h
 clear h
 by_cases c5 : a0.toList = ([61, 61] : List UInt8)
 ·rw [if_pos c5] at H
  have c5b0 : (a0.toList == ([61, 61] : List UInt8)) = true := beq_iff_eq.mpr c5
  have c5b1 : (a0.toList != ([61, 61] : List UInt8)) = false := bne_eq_false_iff_eq.mpr c5
  clear c5
  simp only [Option.some.injEq, Prod.mk.injEq] at H
  obtain ⟨rfl, rfl⟩ := H
  go_enter Tryd.func39, Tryd.ntmps39
  go_wp2
  go_ret2
  exact ⟨by first | rfl | (simp; done) | (simp [*]; done), by repeat (first | exact Drawn0.refl _ | apply Drawn0.step)⟩
 ·rw [if_neg c5] at H
  have c5b0 : (a0.toList == ([61, 61] : List UInt8)) = false := beq_eq_false_iff_ne.mpr c5
  have c5b1 : (a0.toList != ([61, 61] : List UInt8)) = true := bne_iff_ne.mpr c5
  by_cases c6 : a0.toList = ([33, 61] : List UInt8)
  ·rw [if_pos c6] at H
   have c6b0 : (a0.toList == ([33, 61] : List UInt8)) = true := beq_iff_eq.mpr c6
   have c6b1 : (a0.toList != ([33, 61] : List UInt8)) = false := bne_eq_false_iff_eq.mpr c6
   clear c6
   simp only [Option.some.injEq, Prod.mk.injEq] at H
   obtain ⟨rfl, rfl⟩ := H
   go_enter Tryd.func39, Tryd.ntmps39
   go_wp2
   go_ret2
   exact ⟨by first | rfl | (simp; done) | (simp [*]; done), by repeat (first | exact Drawn0.refl _ | apply Drawn0.step)⟩
  ·rw [if_neg c6] at H
   have c6b0 : (a0.toList == ([33, 61] : List UInt8)) = false := beq_eq_false_iff_ne.mpr c6
   have c6b1 : (a0.toList != ([33, 61] : List UInt8)) = true := bne_iff_ne.mpr c6
   by_cases c7 : a0.toList = ([60] : List UInt8)
   ·rw [if_pos c7] at H
    have c7b0 : (a0.toList == ([60] : List UInt8)) = true := beq_iff_eq.mpr c7
    have c7b1 : (a0.toList != ([60] : List UInt8)) = false := bne_eq_false_iff_eq.mpr c7
    clear c7
    simp only [Option.some.injEq, Prod.mk.injEq] at H
    obtain ⟨rfl, rfl⟩ := H
    go_enter Tryd.func39, Tryd.ntmps39
    go_wp2
    go_ret2
    exact ⟨by first | rfl | (simp; done) | (simp [*]; done), by repeat (first | exact Drawn0.refl _ | apply Drawn0.step)⟩
   ·rw [if_neg c7] at H
    have c7b0 : (a0.toList == ([60] : List UInt8)) = false := beq_eq_false_iff_ne.mpr c7
    have c7b1 : (a0.toList != ([60] : List UInt8)) = true := bne_iff_ne.mpr c7
    by_cases c8 : a0.toList = ([60, 61] : List UInt8)
    ·rw [if_pos c8] at H
     have c8b0 : (a0.toList == ([60, 61] : List UInt8)) = true := beq_iff_eq.mpr c8
     have c8b1 : (a0.toList != ([60, 61] : List UInt8)) = false := bne_eq_false_iff_eq.mpr c8
     clear c8
     by_cases c9 : a1 = true
     ·subst c9
      have H1 : (some (true, 0)) = some (r1, r2) := by rw [if_pos rfl] at H; exact H
      clear H
      have H := H1
      clear H1
      simp only [Option.some.injEq, Prod.mk.injEq] at H
      obtain ⟨rfl, rfl⟩ := H
      go_enter Tryd.func39, Tryd.ntmps39
      go_wp2
      go_ret2
      exact ⟨by first | rfl | (simp; done) | (simp [*]; done), by repeat (first | exact Drawn0.refl _ | apply Drawn0.step)⟩
     ·replace c9 := Bool.eq_false_iff.mpr c9
      subst c9
      have H1 : (some (a2, 0)) = some (r1, r2) := by rw [if_neg (show ¬ (false = true) by decide)] at H; exact H
      clear H
      have H := H1
      clear H1
      simp only [Option.some.injEq, Prod.mk.injEq] at H
      obtain ⟨rfl, rfl⟩ := H
      go_enter Tryd.func39, Tryd.ntmps39
      go_wp2
      go_ret2
      exact ⟨by first | rfl | (simp; done) | (simp [*]; done), by repeat (first | exact Drawn0.refl _ | apply Drawn0.step)⟩
    ·rw [if_neg c8] at H
     have c8b0 : (a0.toList == ([60, 61] : List UInt8)) = false := beq_eq_false_iff_ne.mpr c8
     have c8b1 : (a0.toList != ([60, 61] : List UInt8)) = true := bne_iff_ne.mpr c8
     by_cases c10 : a0.toList = ([62] : List UInt8)
     ·rw [if_pos c10] at H
      have c10b0 : (a0.toList == ([62] : List UInt8)) = true := beq_iff_eq.mpr c10
      have c10b1 : (a0.toList != ([62] : List UInt8)) = false := bne_eq_false_iff_eq.mpr c10
      clear c10
      simp only [Option.some.injEq, Prod.mk.injEq] at H
      obtain ⟨rfl, rfl⟩ := H
      go_enter Tryd.func39, Tryd.ntmps39
      go_wp2
      go_ret2
      exact ⟨by first | rfl | (simp; done) | (simp [*]; done), by repeat (first | exact Drawn0.refl _ | apply Drawn0.step)⟩
     ·rw [if_neg c10] at H
      have c10b0 : (a0.toList == ([62] : List UInt8)) = false := beq_eq_false_iff_ne.mpr c10
      have c10b1 : (a0.toList != ([62] : List UInt8)) = true := bne_iff_ne.mpr c10
      by_cases c11 : a0.toList = ([62, 61] : List UInt8)
      ·rw [if_pos c11] at H
       have c11b0 : (a0.toList == ([62, 61] : List UInt8)) = true := beq_iff_eq.mpr c11
       have c11b1 : (a0.toList != ([62, 61] : List UInt8)) = false := bne_eq_false_iff_eq.mpr c11
       clear c11
       by_cases c12 : a3 = true
       ·subst c12
        have H1 : (some (true, 0)) = some (r1, r2) := by rw [if_pos rfl] at H; exact H
        clear H
        have H := H1
        clear H1
        simp only [Option.some.injEq, Prod.mk.injEq] at H
        obtain ⟨rfl, rfl⟩ := H
        go_enter Tryd.func39, Tryd.ntmps39
        go_wp2
        go_ret2
        exact ⟨by first | rfl | (simp; done) | (simp [*]; done), by repeat (first | exact Drawn0.refl _ | apply Drawn0.step)⟩
       ·replace c12 := Bool.eq_false_iff.mpr c12
        subst c12
        have H1 : (some (a2, 0)) = some (r1, r2) := by rw [if_neg (show ¬ (false = true) by decide)] at H; exact H
        clear H
        have H := H1
        clear H1
        simp only [Option.some.injEq, Prod.mk.injEq] at H
        obtain ⟨rfl, rfl⟩ := H
        go_enter Tryd.func39, Tryd.ntmps39
        go_wp2
        go_ret2
        exact ⟨by first | rfl | (simp; done) | (simp [*]; done), by repeat (first | exact Drawn0.refl _ | apply Drawn0.step)⟩
      ·rw [if_neg c11] at H
       have c11b0 : (a0.toList == ([62, 61] : List UInt8)) = false := beq_eq_false_iff_ne.mpr c11
       have c11b1 : (a0.toList != ([62, 61] : List UInt8)) = true := bne_iff_ne.mpr c11
       simp only [Option.some.injEq, Prod.mk.injEq] at H
       obtain ⟨rfl, rfl⟩ := H
       go_enter Tryd.func39, Tryd.ntmps39
       go_wp2
       go_ret2
       exact ⟨by first | rfl | (simp; done) | (simp [*]; done), by repeat (first | exact Drawn0.refl _ | apply Drawn0.step)⟩

end Go.Proofs.YtbnopcndjdpnkaaDoor.X
