/- What the program's functions answer, as Lean functions, and that each call does just that; no condition. Written by a program (px.py) out of the translation. -/
import Derived.Test.YtoljmjhmieaggaaM2
import Derived.Test.YtoljmjhmieaggaaShort2
namespace Go.Proofs.Ytoljmjhmieaggaa.X
open Go.RowKit Go.Proofs.YtoljmjhmieaggaaW.PrintWords Go.Proofs.YtoljmjhmieaggaaW.PrintLast Go.Proofs.YtoljmjhmieaggaaW.PrintMore
attribute [local go_sem] max2_int min2_int max_two min_two max_three min_three max_four min_four   -- for this text's walks alone
set_option linter.unusedVariables false
set_option linter.unusedSimpArgs false

/-! ### diff_ends: function 25 -/
mutual
def diff_ends.j1 : Nat → ByteArray → ByteArray → Int → Option (Int × Int)
 | 0, _, _, _ => none
 | k + 1, x0, x1, x6 => if 0 ≤ x6 then (if x6 ≤ (x0.size : Int) then (if x6 ≤ (x1.size : Int) then (diff_ends.l1 k (x0.extract (x6 : Int).toNat x0.size) (x1.extract (x6 : Int).toNat x1.size) x6 0) else (none)) else (none)) else (none)
def diff_ends.l1 : Nat → ByteArray → ByteArray → Int → Int → Option (Int × Int)
 | 0, _, _, _, _ => none
 | k + 1, x0, x1, x6, x7 => if x7 < (x0.size : Int) then (if x7 < (x1.size : Int) then (if 0 ≤ (wrap64 ((wrap64 ((x0.size : Int) - 1)) - x7)) then (if (wrap64 ((wrap64 ((x0.size : Int) - 1)) - x7)) < (x0.size : Int) then (if 0 ≤ (wrap64 ((wrap64 ((x1.size : Int) - 1)) - x7)) then (if (wrap64 ((wrap64 ((x1.size : Int) - 1)) - x7)) < (x1.size : Int) then (if (bt x0 (wrap64 ((wrap64 ((x0.size : Int) - 1)) - x7))) = (bt x1 (wrap64 ((wrap64 ((x1.size : Int) - 1)) - x7))) then (diff_ends.l1 k x0 x1 x6 (wrap64 (x7 + 1))) else (some (x6, x7))) else (none)) else (none)) else (none)) else (none)) else (some (x6, x7))) else (some (x6, x7))
def diff_ends.l0 : Nat → ByteArray → ByteArray → Int → Option (Int × Int)
 | 0, _, _, _ => none
 | k + 1, x0, x1, x6 => if x6 < (x0.size : Int) then (if x6 < (x1.size : Int) then (if 0 ≤ x6 then (if (bt x0 x6) = (bt x1 x6) then (diff_ends.l0 k x0 x1 (wrap64 (x6 + 1))) else (diff_ends.j1 k x0 x1 x6)) else (none)) else (diff_ends.j1 k x0 x1 x6)) else (diff_ends.j1 k x0 x1 x6)
end
def diff_ends.f (k : Nat) (a0 : ByteArray) (a1 : ByteArray) : Option (Int × Int) := diff_ends.l0 k a0 a1 0
theorem diff_ends.mono_l : ∀ k, (∀ y0 y1 y2, LeO (diff_ends.j1 k y0 y1 y2) (diff_ends.j1 (k + 1) y0 y1 y2)) ∧ (∀ y0 y1 y2 y3, LeO (diff_ends.l1 k y0 y1 y2 y3) (diff_ends.l1 (k + 1) y0 y1 y2 y3)) ∧ (∀ y0 y1 y2, LeO (diff_ends.l0 k y0 y1 y2) (diff_ends.l0 (k + 1) y0 y1 y2))
 | 0 => ⟨fun _ _ _ r h => by simp [diff_ends.j1] at h, fun _ _ _ _ r h => by simp [diff_ends.l1] at h, fun _ _ _ r h => by simp [diff_ends.l0] at h⟩
 | k + 1 => by
  obtain ⟨ih0, ih1, ih2⟩ := diff_ends.mono_l k
  refine ⟨?_, ?_, ?_⟩
  ·intro y0 y1 y2
   unfold diff_ends.j1
   repeat' first
   | (with_reducible exact ih0 _ _ _)
   | (with_reducible exact ih1 _ _ _ _)
   | (with_reducible exact ih2 _ _ _)
   | (with_reducible exact LeO.refl _)
   | (with_reducible exact LeO.none _)
   | (with_reducible refine LeO.ite ?_ ?_)
   | (with_reducible refine LeO.bind ?_ (fun _ => ?_))
   | exact ih0 _ _ _
   | exact ih1 _ _ _ _
   | exact ih2 _ _ _
   | exact LeO.none _
   | refine LeO.ite ?_ ?_
   | refine LeO.bind ?_ (fun _ => ?_)
  ·intro y0 y1 y2 y3
   unfold diff_ends.l1
   repeat' first
   | (with_reducible exact ih0 _ _ _)
   | (with_reducible exact ih1 _ _ _ _)
   | (with_reducible exact ih2 _ _ _)
   | (with_reducible exact LeO.refl _)
   | (with_reducible exact LeO.none _)
   | (with_reducible refine LeO.ite ?_ ?_)
   | (with_reducible refine LeO.bind ?_ (fun _ => ?_))
   | exact ih0 _ _ _
   | exact ih1 _ _ _ _
   | exact ih2 _ _ _
   | exact LeO.none _
   | refine LeO.ite ?_ ?_
   | refine LeO.bind ?_ (fun _ => ?_)
  ·intro y0 y1 y2
   unfold diff_ends.l0
   repeat' first
   | (with_reducible exact ih0 _ _ _)
   | (with_reducible exact ih1 _ _ _ _)
   | (with_reducible exact ih2 _ _ _)
   | (with_reducible exact LeO.refl _)
   | (with_reducible exact LeO.none _)
   | (with_reducible refine LeO.ite ?_ ?_)
   | (with_reducible refine LeO.bind ?_ (fun _ => ?_))
   | exact ih0 _ _ _
   | exact ih1 _ _ _ _
   | exact ih2 _ _ _
   | exact LeO.none _
   | refine LeO.ite ?_ ?_
   | refine LeO.bind ?_ (fun _ => ?_)
theorem diff_ends.mono : ∀ a0 a1 k, LeO (diff_ends.f k a0 a1) (diff_ends.f (k + 1) a0 a1) := by
 intro a0 a1 k
 obtain ⟨ih0, ih1, ih2⟩ := diff_ends.mono_l k
 unfold diff_ends.f
 repeat' first
   | (with_reducible exact ih0 _ _ _)
   | (with_reducible exact ih1 _ _ _ _)
   | (with_reducible exact ih2 _ _ _)
   | (with_reducible exact LeO.refl _)
   | (with_reducible exact LeO.none _)
   | (with_reducible refine LeO.ite ?_ ?_)
   | (with_reducible refine LeO.bind ?_ (fun _ => ?_))
   | exact ih0 _ _ _
   | exact ih1 _ _ _ _
   | exact ih2 _ _ _
   | exact LeO.none _
   | refine LeO.ite ?_ ?_
   | refine LeO.bind ?_ (fun _ => ?_)
set_option maxHeartbeats 8000000 in
set_option maxRecDepth 100000 in
theorem diff_ends.calls (k : Nat) (a0 : ByteArray) (a1 : ByteArray) (r1 : Int) (r2 : Int) (w : World) (h : diff_ends.f k a0 a1 = some (r1, r2)) :
  Calls Try.prog 25 #[.string a0, .string a1] w fun e w' => e = .returned (.tuple #[.int .i64 r1, .int .i64 r2]) ∧ Drawn0 w w' := by
 have H : (diff_ends.l0 k a0 a1 0) = some (r1, r2) := h
 clear h
 have HC3 := Aside0.mk H
 clear H
 go_enter Try.func25, Try.ntmps25
 go_upto_block 0 with (fail)
 repeat (go_quiet (fail); go_upto_block 0 with (fail))
 go_cut [6] (fun v6 wc => ∃ (kq : Nat) (x6_2 : Int), v6 = .int .i64 x6_2 ∧ Aside0 (diff_ends.j1 kq a0 a1 x6_2 = some (r1, r2)) ∧ Aside0 (kq ≤ k) ∧ Drawn0 w wc)
 case first =>
  have H := HC3.out
  clear HC3
  have H' := Aside0.mk H
  clear H
  go_wp2
  repeat (go_quiet (fail); try go_wp2)
  go_loopg [6] k (fun kq v6 w' => ∃ (x6_1 : Int), v6 = .int .i64 x6_1 ∧ Aside0 (diff_ends.l0 kq a0 a1 x6_1 = some (r1, r2)) ∧ Aside0 (kq ≤ k) ∧ Drawn0 w w')
  case atStart => exact ⟨(0), (by first | rfl | (simp; done) | (simp [*]; done)), H', ⟨Nat.le_refl _⟩, by repeat (first | exact Drawn0.refl _ | apply Drawn0.step)⟩
  case round =>
   clear H'
   (try clear c2); (try clear p2)
   obtain ⟨x6_1, rfl, HA, HK1, ⟨m1, rfl⟩⟩ := hrel
   cases gk with
   | zero => exact absurd HA.out (by simp [diff_ends.l0])
   | succ k1 =>
    have H := HA.out
    clear HA
    simp only [diff_ends.l0] at H
    by_cases c4 : x6_1 < (a0.size : Int)
    ·rw [if_pos c4] at H
     have c4b0 : decide (x6_1 < (a0.size : Int)) = true := decide_eq_true c4
     clear c4
     (first | rw [c4b0] | (simp only [i64_w, i32_w]; rw [c4b0]) | skip)
     by_cases c5 : x6_1 < (a1.size : Int)
     ·rw [if_pos c5] at H
      have c5b0 : decide (x6_1 < (a1.size : Int)) = true := decide_eq_true c5
      clear c5
      by_cases c6 : 0 ≤ x6_1
      ·rw [if_pos c6] at H
       have c6b0 : decide (0 ≤ x6_1) = true := decide_eq_true c6
       clear c6
       by_cases c9 : (bt a0 x6_1) = (bt a1 x6_1)
       ·rw [if_pos c9] at H
        have c9b0 : ((bt a0 x6_1) == (bt a1 x6_1)) = true := beq_iff_eq.mpr c9
        have c9b1 : ((bt a0 x6_1) != (bt a1 x6_1)) = false := bne_eq_false_iff_eq.mpr c9
        clear c9
        have H' := Aside0.mk H
        clear H
        have p7 : 0 ≤ (x6_1 : Int) := pxd
        have q7 : x6_1 < (a0.size : Int) := pxd
        have hx7 := bt_at a0 x6_1
        replace p7 := eq_true p7
        replace q7 := eq_true q7
        have p8 : 0 ≤ (x6_1 : Int) := pxd
        have q8 : x6_1 < (a1.size : Int) := pxd
        have hx8 := bt_at a1 x6_1
        replace p8 := eq_true p8
        replace q8 := eq_true q8
        go_wp2
        repeat (go_quiet (fail); try go_wp2)
        go_roundg k1
        case measure => have := HK1.out; omega
        case rel => exact ⟨(wrap64 (x6_1 + 1)), (by first | rfl | (simp; done) | (simp [*]; done)), H', ⟨by have := HK1.out; omega⟩, by repeat (first | exact Drawn0.refl _ | apply Drawn0.step)⟩
       ·rw [if_neg c9] at H
        have c9b0 : ((bt a0 x6_1) == (bt a1 x6_1)) = false := beq_eq_false_iff_ne.mpr c9
        have c9b1 : ((bt a0 x6_1) != (bt a1 x6_1)) = true := bne_iff_ne.mpr c9
        have H' := Aside0.mk H
        clear H
        have p7 : 0 ≤ (x6_1 : Int) := pxd
        have q7 : x6_1 < (a0.size : Int) := pxd
        have hx7 := bt_at a0 x6_1
        replace p7 := eq_true p7
        replace q7 := eq_true q7
        have p8 : 0 ≤ (x6_1 : Int) := pxd
        have q8 : x6_1 < (a1.size : Int) := pxd
        have hx8 := bt_at a1 x6_1
        replace p8 := eq_true p8
        replace q8 := eq_true q8
        go_wp2
        repeat (go_quiet (fail); try go_wp2)
        go_meet
        case rel => exact ⟨_, (x6_1), (by first | rfl | (simp; done) | (simp [*]; done)), H', ⟨by have := HK1.out; first | omega | exact Nat.le_refl _⟩, by repeat (first | exact Drawn0.refl _ | apply Drawn0.step)⟩
      ·rw [if_neg c6] at H
       exact absurd H (by simp)
     ·rw [if_neg c5] at H
      have c5b0 : decide (x6_1 < (a1.size : Int)) = false := decide_eq_false c5
      clear c5
      have H' := Aside0.mk H
      clear H
      go_wp2
      repeat (go_quiet (fail); try go_wp2)
      go_meet
      case rel => exact ⟨_, (x6_1), (by first | rfl | (simp; done) | (simp [*]; done)), H', ⟨by have := HK1.out; first | omega | exact Nat.le_refl _⟩, by repeat (first | exact Drawn0.refl _ | apply Drawn0.step)⟩
    ·rw [if_neg c4] at H
     have c4b0 : decide (x6_1 < (a0.size : Int)) = false := decide_eq_false c4
     clear c4
     (first | rw [c4b0] | (simp only [i64_w, i32_w]; rw [c4b0]) | skip)
     have H' := Aside0.mk H
     clear H
     go_wp2
     repeat (go_quiet (fail); try go_wp2)
     go_meet
     case rel => exact ⟨_, (x6_1), (by first | rfl | (simp; done) | (simp [*]; done)), H', ⟨by have := HK1.out; first | omega | exact Nat.le_refl _⟩, by repeat (first | exact Drawn0.refl _ | apply Drawn0.step)⟩
 case rest =>
  clear HC3
  (try clear c2); (try clear p2); (try clear c4); (try clear c4b0); (try clear c5); (try clear c5b0); (try clear c6); (try clear c6b0); (try clear p6); (try clear p7); (try clear q7); (try clear hx7); (try clear p8); (try clear q8); (try clear hx8); (try clear c9); (try clear c9b0); (try clear c9b1)
  obtain ⟨kq, x6_2, rfl, HA, HJ2, ⟨mc2, rfl⟩⟩ := hcut
  cases kq with
  | zero => exact absurd HA.out (by simp [diff_ends.j1])
  | succ kj2 =>
   have H := HA.out
   clear HA
   simp only [diff_ends.j1] at H
   by_cases c10 : 0 ≤ x6_2
   ·rw [if_pos c10] at H
    have c10b0 := eq_true c10
    have c10b1 : decide (0 ≤ x6_2) = true := decide_eq_true c10
    clear c10
    by_cases c11 : x6_2 ≤ (a0.size : Int)
    ·rw [if_pos c11] at H
     have c11b0 := eq_true c11
     have c11b1 : decide (x6_2 ≤ (a0.size : Int)) = true := decide_eq_true c11
     clear c11
     have c12b0 := eq_true (pxd : 0 ≤ x6_2)
     by_cases c13 : x6_2 ≤ (a1.size : Int)
     ·rw [if_pos c13] at H
      have c13b0 := eq_true c13
      have c13b1 : decide (x6_2 ≤ (a1.size : Int)) = true := decide_eq_true c13
      clear c13
      have H' := Aside0.mk H
      clear H
      go_wp2
      repeat (go_quiet (fail); try go_wp2)
      generalize hg0 : a0.extract (x6_2 : Int).toNat a0.size = s0 at H' ⊢
      generalize hg1 : a1.extract (x6_2 : Int).toNat a1.size = s1 at H' ⊢
      clear hg0 hg1
      go_loopg [7] kj2 (fun kq v7 w' => ∃ (x7_2 : Int), v7 = .int .i64 x7_2 ∧ Aside0 (diff_ends.l1 kq s0 s1 x6_2 x7_2 = some (r1, r2)) ∧ Aside0 (kq ≤ kj2) ∧ Drawn0 w w')
      case atStart => exact ⟨(0), (by first | rfl | (simp; done) | (simp [*]; done)), H', ⟨Nat.le_refl _⟩, by repeat (first | exact Drawn0.refl _ | apply Drawn0.step)⟩
      case round =>
       clear H'
       (try clear c1); (try clear c2); (try clear p2); (try clear c4); (try clear c4b0); (try clear c5); (try clear c5b0); (try clear c6); (try clear c6b0); (try clear p6); (try clear p7); (try clear q7); (try clear hx7); (try clear p8); (try clear q8); (try clear hx8); (try clear c9); (try clear c9b0); (try clear c9b1); (try clear c10); (try clear c10b0); (try clear c10b1); (try clear c11); (try clear c11b0); (try clear c11b1); (try clear c12); (try clear c12b0); (try clear c13); (try clear c13b0); (try clear c13b1)
       obtain ⟨x7_2, rfl, HA, HK2, ⟨m2, rfl⟩⟩ := hrel
       cases gk with
       | zero => exact absurd HA.out (by simp [diff_ends.l1])
       | succ k2 =>
        have H := HA.out
        clear HA
        simp only [diff_ends.l1] at H
        by_cases c14 : x7_2 < (s0.size : Int)
        ·rw [if_pos c14] at H
         have c14b0 : decide (x7_2 < (s0.size : Int)) = true := decide_eq_true c14
         clear c14
         by_cases c15 : x7_2 < (s1.size : Int)
         ·rw [if_pos c15] at H
          have c15b0 : decide (x7_2 < (s1.size : Int)) = true := decide_eq_true c15
          clear c15
          obtain ⟨ji16, hji16⟩ : ∃ j_ : Int, (wrap64 ((wrap64 ((s0.size : Int) - 1)) - x7_2)) = j_ := ⟨_, rfl⟩
          replace H : (if 0 ≤ (ji16) then (if (ji16) < (s0.size : Int) then (if 0 ≤ (wrap64 ((wrap64 ((s1.size : Int) - 1)) - x7_2)) then (if (wrap64 ((wrap64 ((s1.size : Int) - 1)) - x7_2)) < (s1.size : Int) then (if (bt s0 (ji16)) = (bt s1 (wrap64 ((wrap64 ((s1.size : Int) - 1)) - x7_2))) then (diff_ends.l1 k2 s0 s1 x6_2 (wrap64 (x7_2 + 1))) else (some (x6_2, x7_2))) else (none)) else (none)) else (none)) else (none)) = some (r1, r2) := by first | (rw [hji16] at H; exact H) | (simp only [hji16] at H ⊢; exact H)
          have hji16w : (IntKind.i64.wrap ((wrap64 ((s0.size : Int) - 1)) - x7_2)) = ji16 := (i64_w _).trans hji16
          by_cases c17 : 0 ≤ (ji16)
          ·rw [if_pos c17] at H
           have c17b0 : decide (0 ≤ (ji16)) = true := decide_eq_true c17
           clear c17
           by_cases c18 : (ji16) < (s0.size : Int)
           ·rw [if_pos c18] at H
            have c18b0 : decide ((ji16) < (s0.size : Int)) = true := decide_eq_true c18
            clear c18
            obtain ⟨ji20, hji20⟩ : ∃ j_ : Int, (wrap64 ((wrap64 ((s1.size : Int) - 1)) - x7_2)) = j_ := ⟨_, rfl⟩
            replace H : (if 0 ≤ (ji20) then (if (ji20) < (s1.size : Int) then (if (bt s0 (ji16)) = (bt s1 (ji20)) then (diff_ends.l1 k2 s0 s1 x6_2 (wrap64 (x7_2 + 1))) else (some (x6_2, x7_2))) else (none)) else (none)) = some (r1, r2) := by first | (rw [hji20] at H; exact H) | (simp only [hji20] at H ⊢; exact H)
            have hji20w : (IntKind.i64.wrap ((wrap64 ((s1.size : Int) - 1)) - x7_2)) = ji20 := (i64_w _).trans hji20
            by_cases c21 : 0 ≤ (ji20)
            ·rw [if_pos c21] at H
             have c21b0 : decide (0 ≤ (ji20)) = true := decide_eq_true c21
             clear c21
             by_cases c22 : (ji20) < (s1.size : Int)
             ·rw [if_pos c22] at H
              have c22b0 : decide ((ji20) < (s1.size : Int)) = true := decide_eq_true c22
              clear c22
              by_cases c24 : (bt s0 (ji16)) = (bt s1 (ji20))
              ·rw [if_pos c24] at H
               have c24b0 : ((bt s0 (ji16)) == (bt s1 (ji20))) = true := beq_iff_eq.mpr c24
               have c24b1 : ((bt s0 (ji16)) != (bt s1 (ji20))) = false := bne_eq_false_iff_eq.mpr c24
               clear c24
               have H' := Aside0.mk H
               clear H
               have p19 : 0 ≤ ((ji16) : Int) := pxd
               have q19 : (ji16) < (s0.size : Int) := pxd
               have hx19 := bt_at s0 (ji16)
               replace p19 := eq_true p19
               replace q19 := eq_true q19
               have p23 : 0 ≤ ((ji20) : Int) := pxd
               have q23 : (ji20) < (s1.size : Int) := pxd
               have hx23 := bt_at s1 (ji20)
               replace p23 := eq_true p23
               replace q23 := eq_true q23
               go_wp2
               repeat (go_quiet (fail); try go_wp2)
               go_roundg k2
               case measure => have := HJ2.out; have := HK2.out; omega
               case rel => exact ⟨(wrap64 (x7_2 + 1)), (by first | rfl | (simp; done) | (simp [*]; done)), H', ⟨by have := HJ2.out; have := HK2.out; omega⟩, by repeat (first | exact Drawn0.refl _ | apply Drawn0.step)⟩
              ·rw [if_neg c24] at H
               have c24b0 : ((bt s0 (ji16)) == (bt s1 (ji20))) = false := beq_eq_false_iff_ne.mpr c24
               have c24b1 : ((bt s0 (ji16)) != (bt s1 (ji20))) = true := bne_iff_ne.mpr c24
               simp only [Option.some.injEq, Prod.mk.injEq] at H
               obtain ⟨rfl, rfl⟩ := H
               have p19 : 0 ≤ ((ji16) : Int) := pxd
               have q19 : (ji16) < (s0.size : Int) := pxd
               have hx19 := bt_at s0 (ji16)
               replace p19 := eq_true p19
               replace q19 := eq_true q19
               have p23 : 0 ≤ ((ji20) : Int) := pxd
               have q23 : (ji20) < (s1.size : Int) := pxd
               have hx23 := bt_at s1 (ji20)
               replace p23 := eq_true p23
               replace q23 := eq_true q23
               go_wp2
               repeat (go_quiet (fail); try go_wp2)
               go_ret2
               exact ⟨by first | rfl | (simp; done) | (simp only [← hji16, ← hji20] <;> (first | rfl | simp)) | (simp [*]; done), by repeat (first | exact Drawn0.refl _ | apply Drawn0.step)⟩
             ·rw [if_neg c22] at H
              exact absurd H (by simp)
            ·rw [if_neg c21] at H
             exact absurd H (by simp)
           ·rw [if_neg c18] at H
            exact absurd H (by simp)
          ·rw [if_neg c17] at H
           exact absurd H (by simp)
         ·rw [if_neg c15] at H
          have c15b0 : decide (x7_2 < (s1.size : Int)) = false := decide_eq_false c15
          clear c15
          simp only [Option.some.injEq, Prod.mk.injEq] at H
          obtain ⟨rfl, rfl⟩ := H
          go_wp2
          repeat (go_quiet (fail); try go_wp2)
          go_ret2
          exact ⟨by first | rfl | (simp; done) | (simp [*]; done), by repeat (first | exact Drawn0.refl _ | apply Drawn0.step)⟩
        ·rw [if_neg c14] at H
         have c14b0 : decide (x7_2 < (s0.size : Int)) = false := decide_eq_false c14
         clear c14
         simp only [Option.some.injEq, Prod.mk.injEq] at H
         obtain ⟨rfl, rfl⟩ := H
         go_wp2
         repeat (go_quiet (fail); try go_wp2)
         go_ret2
         exact ⟨by first | rfl | (simp; done) | (simp [*]; done), by repeat (first | exact Drawn0.refl _ | apply Drawn0.step)⟩
     ·rw [if_neg c13] at H
      exact absurd H (by simp)
    ·rw [if_neg c11] at H
     exact absurd H (by simp)
   ·rw [if_neg c10] at H
    exact absurd H (by simp)

end Go.Proofs.Ytoljmjhmieaggaa.X
