/- What the program's functions answer, as Lean functions, and that each call does just that; no condition. Written by a program (px.py) out of the translation. -/
import Derived.Test.YtbnopcndjdpnkaaDoorX0
namespace Go.Proofs.YtbnopcndjdpnkaaDoor.X
open Go.RowKit Go.Proofs.YtbnopcndjdpnkaaDoorW.PrintWords Go.Proofs.YtbnopcndjdpnkaaDoorW.PrintLast Go.Proofs.YtbnopcndjdpnkaaDoorW.PrintMore
attribute [local go_sem] max2_int min2_int max_two min_two max_three min_three max_four min_four   -- for this text's walks alone
set_option linter.unusedVariables false
set_option linter.unusedSimpArgs false

/-! ### caulkerref05_ToFloat: function 18 -/
mutual
def caulkerref05_ToFloat.j0 : Nat → Int → Int → Option (Int)
 | 0, _, _ => none
 | k + 1, x3, x4 => caulkerref05_ToFloat.l0 k x3 x4 0
def caulkerref05_ToFloat.l0 : Nat → Int → Int → Int → Option (Int)
 | 0, _, _, _ => none
 | k + 1, x3, x4, x5 => if 0 ≤ (IntKind.u64.wrap (x5)) then (if (shr .u64 x4 (IntKind.u64.wrap (x5))) > 1 then (caulkerref05_ToFloat.l0 k x3 x4 (wrap64 (x5 + 1))) else (if x5 ≤ 52 then (if 0 ≤ (IntKind.u64.wrap (wrap64 (52 - x5))) then (some (IntKind.u64.wrap ((IntKind.u64.wrap (x3 + (IntKind.u64.wrap ((IntKind.u64.wrap (wrap64 (1023 + x5))) * 4503599627370496)))) + (IntKind.u64.wrap ((shl .u64 x4 (IntKind.u64.wrap (wrap64 (52 - x5)))) - 4503599627370496))))) else (none)) else (if 0 ≤ (IntKind.u64.wrap (wrap64 (x5 - 52))) then (if 0 ≤ (IntKind.u64.wrap ((IntKind.u64.wrap (wrap64 (x5 - 52))) - 1)) then (if (IntKind.u64.wrap (x4 - (shl .u64 (shr .u64 x4 (IntKind.u64.wrap (wrap64 (x5 - 52)))) (IntKind.u64.wrap (wrap64 (x5 - 52)))))) > (shl .u64 1 (IntKind.u64.wrap ((IntKind.u64.wrap (wrap64 (x5 - 52))) - 1))) then (some (IntKind.u64.wrap ((IntKind.u64.wrap (x3 + (IntKind.u64.wrap ((IntKind.u64.wrap (wrap64 (1023 + x5))) * 4503599627370496)))) + (IntKind.u64.wrap ((IntKind.u64.wrap ((shr .u64 x4 (IntKind.u64.wrap (wrap64 (x5 - 52)))) + 1)) - 4503599627370496))))) else (if (IntKind.u64.wrap (x4 - (shl .u64 (shr .u64 x4 (IntKind.u64.wrap (wrap64 (x5 - 52)))) (IntKind.u64.wrap (wrap64 (x5 - 52)))))) = (shl .u64 1 (IntKind.u64.wrap ((IntKind.u64.wrap (wrap64 (x5 - 52))) - 1))) then (if (Int.tmod (shr .u64 x4 (IntKind.u64.wrap (wrap64 (x5 - 52)))) 2) = 1 then (some (IntKind.u64.wrap ((IntKind.u64.wrap (x3 + (IntKind.u64.wrap ((IntKind.u64.wrap (wrap64 (1023 + x5))) * 4503599627370496)))) + (IntKind.u64.wrap ((IntKind.u64.wrap ((shr .u64 x4 (IntKind.u64.wrap (wrap64 (x5 - 52)))) + 1)) - 4503599627370496))))) else (some (IntKind.u64.wrap ((IntKind.u64.wrap (x3 + (IntKind.u64.wrap ((IntKind.u64.wrap (wrap64 (1023 + x5))) * 4503599627370496)))) + (IntKind.u64.wrap ((shr .u64 x4 (IntKind.u64.wrap (wrap64 (x5 - 52)))) - 4503599627370496)))))) else (some (IntKind.u64.wrap ((IntKind.u64.wrap (x3 + (IntKind.u64.wrap ((IntKind.u64.wrap (wrap64 (1023 + x5))) * 4503599627370496)))) + (IntKind.u64.wrap ((shr .u64 x4 (IntKind.u64.wrap (wrap64 (x5 - 52)))) - 4503599627370496))))))) else (none)) else (none)))) else (none)
end
def caulkerref05_ToFloat.f (k : Nat) (a0 : Int) : Option (Int) := if a0 = 0 then (some 0) else (if a0 < 0 then (caulkerref05_ToFloat.j0 k 9223372036854775808 (IntKind.u64.wrap (-(IntKind.u64.wrap (a0))))) else (caulkerref05_ToFloat.j0 k 0 (IntKind.u64.wrap (a0))))
theorem caulkerref05_ToFloat.mono_l : ∀ k, (∀ y0 y1, LeO (caulkerref05_ToFloat.j0 k y0 y1) (caulkerref05_ToFloat.j0 (k + 1) y0 y1)) ∧ (∀ y0 y1 y2, LeO (caulkerref05_ToFloat.l0 k y0 y1 y2) (caulkerref05_ToFloat.l0 (k + 1) y0 y1 y2))
 | 0 => ⟨fun _ _ r h => by simp [caulkerref05_ToFloat.j0] at h, fun _ _ _ r h => by simp [caulkerref05_ToFloat.l0] at h⟩
 | k + 1 => by
  obtain ⟨ih0, ih1⟩ := caulkerref05_ToFloat.mono_l k
  refine ⟨?_, ?_⟩
  ·intro y0 y1
   unfold caulkerref05_ToFloat.j0
   repeat' first
   | (with_reducible exact ih0 _ _)
   | (with_reducible exact ih1 _ _ _)
   | (with_reducible exact LeO.refl _)
   | (with_reducible exact LeO.none _)
   | (with_reducible refine LeO.ite ?_ ?_)
   | (with_reducible refine LeO.bind ?_ (fun _ => ?_))
   | exact ih0 _ _
   | exact ih1 _ _ _
   | exact LeO.none _
   | refine LeO.ite ?_ ?_
   | refine LeO.bind ?_ (fun _ => ?_)
  ·intro y0 y1 y2
   unfold caulkerref05_ToFloat.l0
   repeat' first
   | (with_reducible exact ih0 _ _)
   | (with_reducible exact ih1 _ _ _)
   | (with_reducible exact LeO.refl _)
   | (with_reducible exact LeO.none _)
   | (with_reducible refine LeO.ite ?_ ?_)
   | (with_reducible refine LeO.bind ?_ (fun _ => ?_))
   | exact ih0 _ _
   | exact ih1 _ _ _
   | exact LeO.none _
   | refine LeO.ite ?_ ?_
   | refine LeO.bind ?_ (fun _ => ?_)
theorem caulkerref05_ToFloat.mono : ∀ a0 k, LeO (caulkerref05_ToFloat.f k a0) (caulkerref05_ToFloat.f (k + 1) a0) := by
 intro a0 k
 obtain ⟨ih0, ih1⟩ := caulkerref05_ToFloat.mono_l k
 unfold caulkerref05_ToFloat.f
 repeat' first
   | (with_reducible exact ih0 _ _)
   | (with_reducible exact ih1 _ _ _)
   | (with_reducible exact LeO.refl _)
   | (with_reducible exact LeO.none _)
   | (with_reducible refine LeO.ite ?_ ?_)
   | (with_reducible refine LeO.bind ?_ (fun _ => ?_))
   | exact ih0 _ _
   | exact ih1 _ _ _
   | exact LeO.none _
   | refine LeO.ite ?_ ?_
   | refine LeO.bind ?_ (fun _ => ?_)
set_option maxHeartbeats 8000000 in
set_option maxRecDepth 100000 in
theorem caulkerref05_ToFloat.calls (k : Nat) (a0 : Int) (r : Int) (w : World) (h : caulkerref05_ToFloat.f k a0 = some r) :
  Calls Tryd.prog 18 #[.int .i64 a0] w fun e w' => e = .returned (.int .u64 r) ∧ Drawn0 w w' := by
 have H : (if a0 = 0 then (some 0) else (if a0 < 0 then (caulkerref05_ToFloat.j0 k 9223372036854775808 (IntKind.u64.wrap (-(IntKind.u64.wrap (a0))))) else (caulkerref05_ToFloat.j0 k 0 (IntKind.u64.wrap (a0))))) = some r := h
 clear h
 by_cases c2 : a0 = 0
 ·rw [if_pos c2] at H
  have c2b0 : (a0 == 0) = true := beq_iff_eq.mpr c2
  have c2b1 : (a0 != 0) = false := bne_eq_false_iff_eq.mpr c2
  clear c2
  obtain rfl := Option.some.inj H
  go_enter Tryd.func18, Tryd.ntmps18
  go_wp2
  go_ret
  exact ⟨by first | rfl | (simp; done) | (simp [*]; done), by repeat (first | exact Drawn0.refl _ | apply Drawn0.step)⟩
 ·rw [if_neg c2] at H
  have c2b0 : (a0 == 0) = false := beq_eq_false_iff_ne.mpr c2
  have c2b1 : (a0 != 0) = true := bne_iff_ne.mpr c2
  have HC3 := Aside0.mk H
  clear H
  go_enter Tryd.func18, Tryd.ntmps18
  go_upto_if 15 with (fail)
  go_cut [3, 4] (fun v3 v4 wc => ∃ (kq : Nat) (x3_2 : Int) (x4_2 : Int), v3 = .int .u64 x3_2 ∧ v4 = .int .u64 x4_2 ∧ Aside0 (caulkerref05_ToFloat.j0 kq x3_2 x4_2 = some r) ∧ Aside0 (kq ≤ k) ∧ Drawn0 w wc)
  case first =>
   have H := HC3.out
   clear HC3
   by_cases c4 : a0 < 0
   ·rw [if_pos c4] at H
    have c4b0 : decide (a0 < 0) = true := decide_eq_true c4
    clear c4
    (first | rw [c4b0] | (simp only [i64_w, i32_w]; rw [c4b0]) | skip)
    have H' := Aside0.mk H
    clear H
    go_wp2
    go_meet
    case rel => exact ⟨_, (9223372036854775808), (IntKind.u64.wrap (-(IntKind.u64.wrap (a0)))), (by first | rfl | (simp; done) | (simp [*]; done)), (by first | rfl | (simp; done) | (simp [*]; done)), H', ⟨by first | omega | exact Nat.le_refl _⟩, by repeat (first | exact Drawn0.refl _ | apply Drawn0.step)⟩
   ·rw [if_neg c4] at H
    have c4b0 : decide (a0 < 0) = false := decide_eq_false c4
    clear c4
    (first | rw [c4b0] | (simp only [i64_w, i32_w]; rw [c4b0]) | skip)
    have H' := Aside0.mk H
    clear H
    go_wp2
    go_meet
    case rel => exact ⟨_, (0), (IntKind.u64.wrap (a0)), (by first | rfl | (simp; done) | (simp [*]; done)), (by first | rfl | (simp; done) | (simp [*]; done)), H', ⟨by first | omega | exact Nat.le_refl _⟩, by repeat (first | exact Drawn0.refl _ | apply Drawn0.step)⟩
  case rest =>
   clear HC3
   try clear c1
   try clear c2
   try clear c2b0
   try clear c2b1
   try clear p2
   try clear c4
   try clear c4b0
   obtain ⟨kq, x3_2, x4_2, rfl, rfl, HA, HJ2, ⟨mc2, rfl⟩⟩ := hcut
   cases kq with
   | zero => exact absurd HA.out (by simp [caulkerref05_ToFloat.j0])
   | succ kj2 =>
    have H := HA.out
    clear HA
    simp only [caulkerref05_ToFloat.j0] at H
    have H' := Aside0.mk H
    clear H
    go_wp2
    go_loopg [5] kj2 (fun kq v5 w' => ∃ (x5_2 : Int), v5 = .int .i64 x5_2 ∧ Aside0 (caulkerref05_ToFloat.l0 kq x3_2 x4_2 x5_2 = some r) ∧ Aside0 (kq ≤ kj2) ∧ Drawn0 w w')
    case atStart => exact ⟨(0), (by first | rfl | (simp; done) | (simp [*]; done)), H', ⟨Nat.le_refl _⟩, by repeat (first | exact Drawn0.refl _ | apply Drawn0.step)⟩
    case round =>
     clear H'
     try clear c1
     try clear c2
     try clear c2b0
     try clear c2b1
     try clear p2
     try clear c4
     try clear c4b0
     try clear p2
     obtain ⟨x5_2, rfl, HA, HK2, ⟨m2, rfl⟩⟩ := hrel
     cases gk with
     | zero => exact absurd HA.out (by simp [caulkerref05_ToFloat.l0])
     | succ k2 =>
      have H := HA.out
      clear HA
      simp only [caulkerref05_ToFloat.l0] at H
      obtain ⟨ji5, hji5⟩ : ∃ j_ : Int, (IntKind.u64.wrap (x5_2)) = j_ := ⟨_, rfl⟩
      replace H : (if 0 ≤ (ji5) then (if (shr .u64 x4_2 (ji5)) > 1 then (caulkerref05_ToFloat.l0 k2 x3_2 x4_2 (wrap64 (x5_2 + 1))) else (if x5_2 ≤ 52 then (if 0 ≤ (IntKind.u64.wrap (wrap64 (52 - x5_2))) then (some (IntKind.u64.wrap ((IntKind.u64.wrap (x3_2 + (IntKind.u64.wrap ((IntKind.u64.wrap (wrap64 (1023 + x5_2))) * 4503599627370496)))) + (IntKind.u64.wrap ((shl .u64 x4_2 (IntKind.u64.wrap (wrap64 (52 - x5_2)))) - 4503599627370496))))) else (none)) else (if 0 ≤ (IntKind.u64.wrap (wrap64 (x5_2 - 52))) then (if 0 ≤ (IntKind.u64.wrap ((IntKind.u64.wrap (wrap64 (x5_2 - 52))) - 1)) then (if (IntKind.u64.wrap (x4_2 - (shl .u64 (shr .u64 x4_2 (IntKind.u64.wrap (wrap64 (x5_2 - 52)))) (IntKind.u64.wrap (wrap64 (x5_2 - 52)))))) > (shl .u64 1 (IntKind.u64.wrap ((IntKind.u64.wrap (wrap64 (x5_2 - 52))) - 1))) then (some (IntKind.u64.wrap ((IntKind.u64.wrap (x3_2 + (IntKind.u64.wrap ((IntKind.u64.wrap (wrap64 (1023 + x5_2))) * 4503599627370496)))) + (IntKind.u64.wrap ((IntKind.u64.wrap ((shr .u64 x4_2 (IntKind.u64.wrap (wrap64 (x5_2 - 52)))) + 1)) - 4503599627370496))))) else (if (IntKind.u64.wrap (x4_2 - (shl .u64 (shr .u64 x4_2 (IntKind.u64.wrap (wrap64 (x5_2 - 52)))) (IntKind.u64.wrap (wrap64 (x5_2 - 52)))))) = (shl .u64 1 (IntKind.u64.wrap ((IntKind.u64.wrap (wrap64 (x5_2 - 52))) - 1))) then (if (Int.tmod (shr .u64 x4_2 (IntKind.u64.wrap (wrap64 (x5_2 - 52)))) 2) = 1 then (some (IntKind.u64.wrap ((IntKind.u64.wrap (x3_2 + (IntKind.u64.wrap ((IntKind.u64.wrap (wrap64 (1023 + x5_2))) * 4503599627370496)))) + (IntKind.u64.wrap ((IntKind.u64.wrap ((shr .u64 x4_2 (IntKind.u64.wrap (wrap64 (x5_2 - 52)))) + 1)) - 4503599627370496))))) else (some (IntKind.u64.wrap ((IntKind.u64.wrap (x3_2 + (IntKind.u64.wrap ((IntKind.u64.wrap (wrap64 (1023 + x5_2))) * 4503599627370496)))) + (IntKind.u64.wrap ((shr .u64 x4_2 (IntKind.u64.wrap (wrap64 (x5_2 - 52)))) - 4503599627370496)))))) else (some (IntKind.u64.wrap ((IntKind.u64.wrap (x3_2 + (IntKind.u64.wrap ((IntKind.u64.wrap (wrap64 (1023 + x5_2))) * 4503599627370496)))) + (IntKind.u64.wrap ((shr .u64 x4_2 (IntKind.u64.wrap (wrap64 (x5_2 - 52)))) - 4503599627370496))))))) else (none)) else (none)))) else (none)) = some r := by first | (rw [hji5] at H; exact H) | (simp only [hji5] at H ⊢; exact H)
      by_cases c6 : 0 ≤ (ji5)
      ·rw [if_pos c6] at H
       have c6b0 := eq_true c6
       have c6b1 : decide (0 ≤ (ji5)) = true := decide_eq_true c6
       clear c6
       obtain ⟨ji7, hji7⟩ : ∃ j_ : Int, (shr .u64 x4_2 (ji5)) = j_ := ⟨_, rfl⟩
       replace H : (if (ji7) > 1 then (caulkerref05_ToFloat.l0 k2 x3_2 x4_2 (wrap64 (x5_2 + 1))) else (if x5_2 ≤ 52 then (if 0 ≤ (IntKind.u64.wrap (wrap64 (52 - x5_2))) then (some (IntKind.u64.wrap ((IntKind.u64.wrap (x3_2 + (IntKind.u64.wrap ((IntKind.u64.wrap (wrap64 (1023 + x5_2))) * 4503599627370496)))) + (IntKind.u64.wrap ((shl .u64 x4_2 (IntKind.u64.wrap (wrap64 (52 - x5_2)))) - 4503599627370496))))) else (none)) else (if 0 ≤ (IntKind.u64.wrap (wrap64 (x5_2 - 52))) then (if 0 ≤ (IntKind.u64.wrap ((IntKind.u64.wrap (wrap64 (x5_2 - 52))) - 1)) then (if (IntKind.u64.wrap (x4_2 - (shl .u64 (shr .u64 x4_2 (IntKind.u64.wrap (wrap64 (x5_2 - 52)))) (IntKind.u64.wrap (wrap64 (x5_2 - 52)))))) > (shl .u64 1 (IntKind.u64.wrap ((IntKind.u64.wrap (wrap64 (x5_2 - 52))) - 1))) then (some (IntKind.u64.wrap ((IntKind.u64.wrap (x3_2 + (IntKind.u64.wrap ((IntKind.u64.wrap (wrap64 (1023 + x5_2))) * 4503599627370496)))) + (IntKind.u64.wrap ((IntKind.u64.wrap ((shr .u64 x4_2 (IntKind.u64.wrap (wrap64 (x5_2 - 52)))) + 1)) - 4503599627370496))))) else (if (IntKind.u64.wrap (x4_2 - (shl .u64 (shr .u64 x4_2 (IntKind.u64.wrap (wrap64 (x5_2 - 52)))) (IntKind.u64.wrap (wrap64 (x5_2 - 52)))))) = (shl .u64 1 (IntKind.u64.wrap ((IntKind.u64.wrap (wrap64 (x5_2 - 52))) - 1))) then (if (Int.tmod (shr .u64 x4_2 (IntKind.u64.wrap (wrap64 (x5_2 - 52)))) 2) = 1 then (some (IntKind.u64.wrap ((IntKind.u64.wrap (x3_2 + (IntKind.u64.wrap ((IntKind.u64.wrap (wrap64 (1023 + x5_2))) * 4503599627370496)))) + (IntKind.u64.wrap ((IntKind.u64.wrap ((shr .u64 x4_2 (IntKind.u64.wrap (wrap64 (x5_2 - 52)))) + 1)) - 4503599627370496))))) else (some (IntKind.u64.wrap ((IntKind.u64.wrap (x3_2 + (IntKind.u64.wrap ((IntKind.u64.wrap (wrap64 (1023 + x5_2))) * 4503599627370496)))) + (IntKind.u64.wrap ((shr .u64 x4_2 (IntKind.u64.wrap (wrap64 (x5_2 - 52)))) - 4503599627370496)))))) else (some (IntKind.u64.wrap ((IntKind.u64.wrap (x3_2 + (IntKind.u64.wrap ((IntKind.u64.wrap (wrap64 (1023 + x5_2))) * 4503599627370496)))) + (IntKind.u64.wrap ((shr .u64 x4_2 (IntKind.u64.wrap (wrap64 (x5_2 - 52)))) - 4503599627370496))))))) else (none)) else (none)))) = some r := by first | (rw [hji7] at H; exact H) | (simp only [hji7] at H ⊢; exact H)
       have hji7_ : (x4_2 / 2 ^ min (ji5).toNat 64) = ji7 := hji7
       have hji7z : (ji5) ≤ 64 → (x4_2 / 2 ^ (ji5).toNat) = ji7 := shr_small hji7
       by_cases c8 : (ji7) > 1
       ·rw [if_pos c8] at H
        have c8b0 : decide (1 < (ji7)) = true := decide_eq_true c8
        clear c8
        have H' := Aside0.mk H
        clear H
        go_wp2
        go_roundg k2
        case measure => have := HJ2.out; have := HK2.out; omega
        case rel => exact ⟨(wrap64 (x5_2 + 1)), (by first | rfl | (simp; done) | (simp [*]; done)), H', ⟨by have := HJ2.out; have := HK2.out; omega⟩, by repeat (first | exact Drawn0.refl _ | apply Drawn0.step)⟩
       ·rw [if_neg c8] at H
        have c8b0 : decide (1 < (ji7)) = false := decide_eq_false c8
        clear c8
        by_cases c9 : x5_2 ≤ 52
        ·rw [if_pos c9] at H
         have c9b0 : decide (x5_2 ≤ 52) = true := decide_eq_true c9
         clear c9
         obtain ⟨ji10, hji10⟩ : ∃ j_ : Int, (IntKind.u64.wrap (wrap64 (52 - x5_2))) = j_ := ⟨_, rfl⟩
         replace H : (if 0 ≤ (ji10) then (some (IntKind.u64.wrap ((IntKind.u64.wrap (x3_2 + (IntKind.u64.wrap ((IntKind.u64.wrap (wrap64 (1023 + x5_2))) * 4503599627370496)))) + (IntKind.u64.wrap ((shl .u64 x4_2 (ji10)) - 4503599627370496))))) else (none)) = some r := by first | (rw [hji10] at H; exact H) | (simp only [hji10] at H ⊢; exact H)
         by_cases c11 : 0 ≤ (ji10)
         ·rw [if_pos c11] at H
          have c11b0 := eq_true c11
          have c11b1 : decide (0 ≤ (ji10)) = true := decide_eq_true c11
          clear c11
          obtain ⟨ji12, hji12⟩ : ∃ j_ : Int, (shl .u64 x4_2 (ji10)) = j_ := ⟨_, rfl⟩
          replace H : (some (IntKind.u64.wrap ((IntKind.u64.wrap (x3_2 + (IntKind.u64.wrap ((IntKind.u64.wrap (wrap64 (1023 + x5_2))) * 4503599627370496)))) + (IntKind.u64.wrap ((ji12) - 4503599627370496))))) = some r := by first | (rw [hji12] at H; exact H) | (simp only [hji12] at H ⊢; exact H)
          have hji12_ : (IntKind.u64.wrap (x4_2 * 2 ^ min (ji10).toNat 64)) = ji12 := hji12
          have hji12z : (ji10) ≤ 64 → (IntKind.u64.wrap (x4_2 * 2 ^ (ji10).toNat)) = ji12 := shl_small hji12
          obtain rfl := Option.some.inj H
          go_wp2
          go_ret
          exact ⟨by first | rfl | (simp; done) | (simp only [← hji5, ← hji7, ← hji10, ← hji12] <;> (first | rfl | simp)) | (simp [*]; done), by repeat (first | exact Drawn0.refl _ | apply Drawn0.step)⟩
         ·rw [if_neg c11] at H
          exact absurd H (by simp)
        ·rw [if_neg c9] at H
         have c9b0 : decide (x5_2 ≤ 52) = false := decide_eq_false c9
         clear c9
         obtain ⟨ji13, hji13⟩ : ∃ j_ : Int, (IntKind.u64.wrap (wrap64 (x5_2 - 52))) = j_ := ⟨_, rfl⟩
         replace H : (if 0 ≤ (ji13) then (if 0 ≤ (IntKind.u64.wrap ((ji13) - 1)) then (if (IntKind.u64.wrap (x4_2 - (shl .u64 (shr .u64 x4_2 (ji13)) (ji13)))) > (shl .u64 1 (IntKind.u64.wrap ((ji13) - 1))) then (some (IntKind.u64.wrap ((IntKind.u64.wrap (x3_2 + (IntKind.u64.wrap ((IntKind.u64.wrap (wrap64 (1023 + x5_2))) * 4503599627370496)))) + (IntKind.u64.wrap ((IntKind.u64.wrap ((shr .u64 x4_2 (ji13)) + 1)) - 4503599627370496))))) else (if (IntKind.u64.wrap (x4_2 - (shl .u64 (shr .u64 x4_2 (ji13)) (ji13)))) = (shl .u64 1 (IntKind.u64.wrap ((ji13) - 1))) then (if (Int.tmod (shr .u64 x4_2 (ji13)) 2) = 1 then (some (IntKind.u64.wrap ((IntKind.u64.wrap (x3_2 + (IntKind.u64.wrap ((IntKind.u64.wrap (wrap64 (1023 + x5_2))) * 4503599627370496)))) + (IntKind.u64.wrap ((IntKind.u64.wrap ((shr .u64 x4_2 (ji13)) + 1)) - 4503599627370496))))) else (some (IntKind.u64.wrap ((IntKind.u64.wrap (x3_2 + (IntKind.u64.wrap ((IntKind.u64.wrap (wrap64 (1023 + x5_2))) * 4503599627370496)))) + (IntKind.u64.wrap ((shr .u64 x4_2 (ji13)) - 4503599627370496)))))) else (some (IntKind.u64.wrap ((IntKind.u64.wrap (x3_2 + (IntKind.u64.wrap ((IntKind.u64.wrap (wrap64 (1023 + x5_2))) * 4503599627370496)))) + (IntKind.u64.wrap ((shr .u64 x4_2 (ji13)) - 4503599627370496))))))) else (none)) else (none)) = some r := by first | (rw [hji13] at H; exact H) | (simp only [hji13] at H ⊢; exact H)
         by_cases c14 : 0 ≤ (ji13)
         ·rw [if_pos c14] at H
          have c14b0 := eq_true c14
          have c14b1 : decide (0 ≤ (ji13)) = true := decide_eq_true c14
          clear c14
          obtain ⟨ji15, hji15⟩ : ∃ j_ : Int, (shr .u64 x4_2 (ji13)) = j_ := ⟨_, rfl⟩
          replace H : (if 0 ≤ (IntKind.u64.wrap ((ji13) - 1)) then (if (IntKind.u64.wrap (x4_2 - (shl .u64 (ji15) (ji13)))) > (shl .u64 1 (IntKind.u64.wrap ((ji13) - 1))) then (some (IntKind.u64.wrap ((IntKind.u64.wrap (x3_2 + (IntKind.u64.wrap ((IntKind.u64.wrap (wrap64 (1023 + x5_2))) * 4503599627370496)))) + (IntKind.u64.wrap ((IntKind.u64.wrap ((ji15) + 1)) - 4503599627370496))))) else (if (IntKind.u64.wrap (x4_2 - (shl .u64 (ji15) (ji13)))) = (shl .u64 1 (IntKind.u64.wrap ((ji13) - 1))) then (if (Int.tmod (ji15) 2) = 1 then (some (IntKind.u64.wrap ((IntKind.u64.wrap (x3_2 + (IntKind.u64.wrap ((IntKind.u64.wrap (wrap64 (1023 + x5_2))) * 4503599627370496)))) + (IntKind.u64.wrap ((IntKind.u64.wrap ((ji15) + 1)) - 4503599627370496))))) else (some (IntKind.u64.wrap ((IntKind.u64.wrap (x3_2 + (IntKind.u64.wrap ((IntKind.u64.wrap (wrap64 (1023 + x5_2))) * 4503599627370496)))) + (IntKind.u64.wrap ((ji15) - 4503599627370496)))))) else (some (IntKind.u64.wrap ((IntKind.u64.wrap (x3_2 + (IntKind.u64.wrap ((IntKind.u64.wrap (wrap64 (1023 + x5_2))) * 4503599627370496)))) + (IntKind.u64.wrap ((ji15) - 4503599627370496))))))) else (none)) = some r := by first | (rw [hji15] at H; exact H) | (simp only [hji15] at H ⊢; exact H)
          have hji15_ : (x4_2 / 2 ^ min (ji13).toNat 64) = ji15 := hji15
          have hji15z : (ji13) ≤ 64 → (x4_2 / 2 ^ (ji13).toNat) = ji15 := shr_small hji15
          have c16b0 := eq_true (of_decide_eq_true (by first | (with_reducible assumption) | assumption) : 0 ≤ (ji13))
          obtain ⟨ji17, hji17⟩ : ∃ j_ : Int, (shl .u64 (ji15) (ji13)) = j_ := ⟨_, rfl⟩
          replace H : (if 0 ≤ (IntKind.u64.wrap ((ji13) - 1)) then (if (IntKind.u64.wrap (x4_2 - (ji17))) > (shl .u64 1 (IntKind.u64.wrap ((ji13) - 1))) then (some (IntKind.u64.wrap ((IntKind.u64.wrap (x3_2 + (IntKind.u64.wrap ((IntKind.u64.wrap (wrap64 (1023 + x5_2))) * 4503599627370496)))) + (IntKind.u64.wrap ((IntKind.u64.wrap ((ji15) + 1)) - 4503599627370496))))) else (if (IntKind.u64.wrap (x4_2 - (ji17))) = (shl .u64 1 (IntKind.u64.wrap ((ji13) - 1))) then (if (Int.tmod (ji15) 2) = 1 then (some (IntKind.u64.wrap ((IntKind.u64.wrap (x3_2 + (IntKind.u64.wrap ((IntKind.u64.wrap (wrap64 (1023 + x5_2))) * 4503599627370496)))) + (IntKind.u64.wrap ((IntKind.u64.wrap ((ji15) + 1)) - 4503599627370496))))) else (some (IntKind.u64.wrap ((IntKind.u64.wrap (x3_2 + (IntKind.u64.wrap ((IntKind.u64.wrap (wrap64 (1023 + x5_2))) * 4503599627370496)))) + (IntKind.u64.wrap ((ji15) - 4503599627370496)))))) else (some (IntKind.u64.wrap ((IntKind.u64.wrap (x3_2 + (IntKind.u64.wrap ((IntKind.u64.wrap (wrap64 (1023 + x5_2))) * 4503599627370496)))) + (IntKind.u64.wrap ((ji15) - 4503599627370496))))))) else (none)) = some r := by first | (rw [hji17] at H; exact H) | (simp only [hji17] at H ⊢; exact H)
          have hji17_ : (IntKind.u64.wrap ((ji15) * 2 ^ min (ji13).toNat 64)) = ji17 := hji17
          have hji17z : (ji13) ≤ 64 → (IntKind.u64.wrap ((ji15) * 2 ^ (ji13).toNat)) = ji17 := shl_small hji17
          obtain ⟨ji18, hji18⟩ : ∃ j_ : Int, (IntKind.u64.wrap ((ji13) - 1)) = j_ := ⟨_, rfl⟩
          replace H : (if 0 ≤ (ji18) then (if (IntKind.u64.wrap (x4_2 - (ji17))) > (shl .u64 1 (ji18)) then (some (IntKind.u64.wrap ((IntKind.u64.wrap (x3_2 + (IntKind.u64.wrap ((IntKind.u64.wrap (wrap64 (1023 + x5_2))) * 4503599627370496)))) + (IntKind.u64.wrap ((IntKind.u64.wrap ((ji15) + 1)) - 4503599627370496))))) else (if (IntKind.u64.wrap (x4_2 - (ji17))) = (shl .u64 1 (ji18)) then (if (Int.tmod (ji15) 2) = 1 then (some (IntKind.u64.wrap ((IntKind.u64.wrap (x3_2 + (IntKind.u64.wrap ((IntKind.u64.wrap (wrap64 (1023 + x5_2))) * 4503599627370496)))) + (IntKind.u64.wrap ((IntKind.u64.wrap ((ji15) + 1)) - 4503599627370496))))) else (some (IntKind.u64.wrap ((IntKind.u64.wrap (x3_2 + (IntKind.u64.wrap ((IntKind.u64.wrap (wrap64 (1023 + x5_2))) * 4503599627370496)))) + (IntKind.u64.wrap ((ji15) - 4503599627370496)))))) else (some (IntKind.u64.wrap ((IntKind.u64.wrap (x3_2 + (IntKind.u64.wrap ((IntKind.u64.wrap (wrap64 (1023 + x5_2))) * 4503599627370496)))) + (IntKind.u64.wrap ((ji15) - 4503599627370496))))))) else (none)) = some r := by first | (rw [hji18] at H; exact H) | (simp only [hji18] at H ⊢; exact H)
          by_cases c19 : 0 ≤ (ji18)
          ·rw [if_pos c19] at H
           have c19b0 := eq_true c19
           have c19b1 : decide (0 ≤ (ji18)) = true := decide_eq_true c19
           clear c19
           obtain ⟨ji20, hji20⟩ : ∃ j_ : Int, (shl .u64 1 (ji18)) = j_ := ⟨_, rfl⟩
           replace H : (if (IntKind.u64.wrap (x4_2 - (ji17))) > (ji20) then (some (IntKind.u64.wrap ((IntKind.u64.wrap (x3_2 + (IntKind.u64.wrap ((IntKind.u64.wrap (wrap64 (1023 + x5_2))) * 4503599627370496)))) + (IntKind.u64.wrap ((IntKind.u64.wrap ((ji15) + 1)) - 4503599627370496))))) else (if (IntKind.u64.wrap (x4_2 - (ji17))) = (ji20) then (if (Int.tmod (ji15) 2) = 1 then (some (IntKind.u64.wrap ((IntKind.u64.wrap (x3_2 + (IntKind.u64.wrap ((IntKind.u64.wrap (wrap64 (1023 + x5_2))) * 4503599627370496)))) + (IntKind.u64.wrap ((IntKind.u64.wrap ((ji15) + 1)) - 4503599627370496))))) else (some (IntKind.u64.wrap ((IntKind.u64.wrap (x3_2 + (IntKind.u64.wrap ((IntKind.u64.wrap (wrap64 (1023 + x5_2))) * 4503599627370496)))) + (IntKind.u64.wrap ((ji15) - 4503599627370496)))))) else (some (IntKind.u64.wrap ((IntKind.u64.wrap (x3_2 + (IntKind.u64.wrap ((IntKind.u64.wrap (wrap64 (1023 + x5_2))) * 4503599627370496)))) + (IntKind.u64.wrap ((ji15) - 4503599627370496))))))) = some r := by first | (rw [hji20] at H; exact H) | (simp only [hji20] at H ⊢; exact H)
           have hji20_ : (IntKind.u64.wrap (1 * 2 ^ min (ji18).toNat 64)) = ji20 := hji20
           have hji20z : (ji18) ≤ 64 → (IntKind.u64.wrap (1 * 2 ^ (ji18).toNat)) = ji20 := shl_small hji20
           have hji20u : (IntKind.u64.wrap (2 ^ min (ji18).toNat 64)) = ji20 := by have h_ := hji20_; rw [Int.one_mul] at h_; exact h_
           have hji20v : (ji18) ≤ 64 → (IntKind.u64.wrap (2 ^ (ji18).toNat)) = ji20 := fun hle_ => by have h_ := hji20z hle_; rw [Int.one_mul] at h_; exact h_
           by_cases c21 : (IntKind.u64.wrap (x4_2 - (ji17))) > (ji20)
           ·rw [if_pos c21] at H
            have c21b0 : decide ((ji20) < (IntKind.u64.wrap (x4_2 - (ji17)))) = true := decide_eq_true c21
            clear c21
            obtain rfl := Option.some.inj H
            go_wp2
            go_ret
            exact ⟨by first | rfl | (simp; done) | (simp only [← hji5, ← hji7, ← hji13, ← hji15, ← hji17, ← hji18, ← hji20] <;> (first | rfl | simp)) | (simp [*]; done), by repeat (first | exact Drawn0.refl _ | apply Drawn0.step)⟩
           ·rw [if_neg c21] at H
            have c21b0 : decide ((ji20) < (IntKind.u64.wrap (x4_2 - (ji17)))) = false := decide_eq_false c21
            clear c21
            by_cases c22 : (IntKind.u64.wrap (x4_2 - (ji17))) = (ji20)
            ·rw [if_pos c22] at H
             have c22b0 : ((IntKind.u64.wrap (x4_2 - (ji17))) == (ji20)) = true := beq_iff_eq.mpr c22
             have c22b1 : ((IntKind.u64.wrap (x4_2 - (ji17))) != (ji20)) = false := bne_eq_false_iff_eq.mpr c22
             clear c22
             by_cases c23 : (Int.tmod (ji15) 2) = 1
             ·rw [if_pos c23] at H
              have c23b0 : ((Int.tmod (ji15) 2) == 1) = true := beq_iff_eq.mpr c23
              have c23b1 : ((Int.tmod (ji15) 2) != 1) = false := bne_eq_false_iff_eq.mpr c23
              clear c23
              obtain rfl := Option.some.inj H
              go_wp2
              go_ret
              exact ⟨by first | rfl | (simp; done) | (simp only [← hji5, ← hji7, ← hji13, ← hji15, ← hji17, ← hji18, ← hji20] <;> (first | rfl | simp)) | (simp [*]; done), by repeat (first | exact Drawn0.refl _ | apply Drawn0.step)⟩
             ·rw [if_neg c23] at H
              have c23b0 : ((Int.tmod (ji15) 2) == 1) = false := beq_eq_false_iff_ne.mpr c23
              have c23b1 : ((Int.tmod (ji15) 2) != 1) = true := bne_iff_ne.mpr c23
              obtain rfl := Option.some.inj H
              go_wp2
              go_ret
              exact ⟨by first | rfl | (simp; done) | (simp only [← hji5, ← hji7, ← hji13, ← hji15, ← hji17, ← hji18, ← hji20] <;> (first | rfl | simp)) | (simp [*]; done), by repeat (first | exact Drawn0.refl _ | apply Drawn0.step)⟩
            ·rw [if_neg c22] at H
             have c22b0 : ((IntKind.u64.wrap (x4_2 - (ji17))) == (ji20)) = false := beq_eq_false_iff_ne.mpr c22
             have c22b1 : ((IntKind.u64.wrap (x4_2 - (ji17))) != (ji20)) = true := bne_iff_ne.mpr c22
             obtain rfl := Option.some.inj H
             go_wp2
             go_ret
             exact ⟨by first | rfl | (simp; done) | (simp only [← hji5, ← hji7, ← hji13, ← hji15, ← hji17, ← hji18, ← hji20] <;> (first | rfl | simp)) | (simp [*]; done), by repeat (first | exact Drawn0.refl _ | apply Drawn0.step)⟩
          ·rw [if_neg c19] at H
           exact absurd H (by simp)
         ·rw [if_neg c14] at H
          exact absurd H (by simp)
      ·rw [if_neg c6] at H
       exact absurd H (by simp)

end Go.Proofs.YtbnopcndjdpnkaaDoor.X
