/- What the program's functions answer, as Lean functions, and that each call does just that; no condition. Written by a program (px.py) out of the translation. -/
import Derived.Test.YtoljmjhmieaggaaM2
import Derived.Test.YtoljmjhmieaggaaX25
import Derived.Test.YtoljmjhmieaggaaX26
import Derived.Test.YtoljmjhmieaggaaX27
import Derived.Test.YtoljmjhmieaggaaM5
namespace Go.Proofs.Ytoljmjhmieaggaa.X
open Go.RowKit Go.Proofs.YtoljmjhmieaggaaW.PrintWords Go.Proofs.YtoljmjhmieaggaaW.PrintLast Go.Proofs.YtoljmjhmieaggaaW.PrintMore
attribute [local go_sem] max2_int min2_int max_two min_two max_three min_three max_four min_four   -- for this text's walks alone
set_option linter.unusedVariables false
set_option linter.unusedSimpArgs false

/-! ### diff_Bytes: function 12 -/
mutual
def diff_Bytes.j0 : Nat → ByteArray → ByteArray → Bool → Option ((List (S41)) × Bool × Int)
 | 0, _, _, _ => none
 | k + 1, x0, x1, x25 => if x25 = true then (some (([] : List (S41)), false, 2)) else ((diff_ends.f k x0 x1).bind fun bt164 => (if 0 ≤ bt164.1 then (if bt164.1 ≤ (wrap64 ((x0.size : Int) - bt164.2)) then (if (wrap64 ((x0.size : Int) - bt164.2)) ≤ (x0.size : Int) then (if bt164.1 ≤ (wrap64 ((x1.size : Int) - bt164.2)) then (if (wrap64 ((x1.size : Int) - bt164.2)) ≤ (x1.size : Int) then ((diff_common.f k (x0.extract (bt164.1 : Int).toNat ((wrap64 ((x0.size : Int) - bt164.2)) : Int).toNat) (x1.extract (bt164.1 : Int).toNat ((wrap64 ((x1.size : Int) - bt164.2)) : Int).toNat)).bind fun bt166 => (if bt166.2 = true then (if bt166.1.length < 5864062014805 then ((some (bt166.1 ++ [(⟨((x0.extract (bt164.1 : Int).toNat ((wrap64 ((x0.size : Int) - bt164.2)) : Int).toNat).size : Int), ((x1.extract (bt164.1 : Int).toNat ((wrap64 ((x1.size : Int) - bt164.2)) : Int).toNat).size : Int), 0⟩ : S63)] : List (S63))).bind fun y173 => (diff_Bytes.l0 k bt164.1 (x1.extract (bt164.1 : Int).toNat ((wrap64 ((x1.size : Int) - bt164.2)) : Int).toNat) ([] : List (S41)) 0 0 y173 (y173.length : Int) 0)) else (none)) else ((diff_one.f bt164.1 (x0.extract (bt164.1 : Int).toNat ((wrap64 ((x0.size : Int) - bt164.2)) : Int).toNat) (x1.extract (bt164.1 : Int).toNat ((wrap64 ((x1.size : Int) - bt164.2)) : Int).toNat)).bind fun t170 => (some (t170, false, 0))))) else (none)) else (none)) else (none)) else (none)) else (none)))
def diff_Bytes.l0 : Nat → Int → ByteArray → List (S41) → Int → Int → List (S63) → Int → Int → Option ((List (S41)) × Bool × Int)
 | 0, _, _, _, _, _, _, _, _ => none
 | k + 1, x7, x10, x13, x14, x15, x65, x66, x67 => if x67 < x66 then (if 0 ≤ x67 then (if x67 < (x65.length : Int) then (if x14 < ((rd_T63 x65 x67).f0) then (if 0 ≤ x15 then (if x15 ≤ ((rd_T63 x65 x67).f1) then (if ((rd_T63 x65 x67).f1) ≤ (x10.size : Int) then (if x13.length < 4398046511104 then (diff_Bytes.l0 k x7 x10 (x13 ++ [(⟨(⟨wrap64 (x7 + x14), wrap64 (x7 + ((rd_T63 x65 x67).f0))⟩ : S39), x10.extract (x15 : Int).toNat (((rd_T63 x65 x67).f1) : Int).toNat⟩ : S41)]) (wrap64 (((rd_T63 x65 x67).f0) + ((rd_T63 x65 x67).f2))) (wrap64 (((rd_T63 x65 x67).f1) + ((rd_T63 x65 x67).f2))) x65 x66 (wrap64 (x67 + 1))) else (none)) else (none)) else (none)) else (none)) else (if x15 < ((rd_T63 x65 x67).f1) then (if 0 ≤ x15 then (if x15 ≤ ((rd_T63 x65 x67).f1) then (if ((rd_T63 x65 x67).f1) ≤ (x10.size : Int) then (if x13.length < 4398046511104 then (diff_Bytes.l0 k x7 x10 (x13 ++ [(⟨(⟨wrap64 (x7 + x14), wrap64 (x7 + ((rd_T63 x65 x67).f0))⟩ : S39), x10.extract (x15 : Int).toNat (((rd_T63 x65 x67).f1) : Int).toNat⟩ : S41)]) (wrap64 (((rd_T63 x65 x67).f0) + ((rd_T63 x65 x67).f2))) (wrap64 (((rd_T63 x65 x67).f1) + ((rd_T63 x65 x67).f2))) x65 x66 (wrap64 (x67 + 1))) else (none)) else (none)) else (none)) else (none)) else (diff_Bytes.l0 k x7 x10 x13 (wrap64 (((rd_T63 x65 x67).f0) + ((rd_T63 x65 x67).f2))) (wrap64 (((rd_T63 x65 x67).f1) + ((rd_T63 x65 x67).f2))) x65 x66 (wrap64 (x67 + 1))))) else (none)) else (none)) else (some (x13, true, 0))
end
def diff_Bytes.f (k : Nat) (a0 : ByteArray) (a1 : ByteArray) : Option ((List (S41)) × Bool × Int) := if (a0.size : Int) > 16384 then (diff_Bytes.j0 k a0 a1 true) else (diff_Bytes.j0 k a0 a1 (decide ((a1.size : Int) > 16384)))
theorem diff_Bytes.mono_l : ∀ k, (∀ y0 y1 y2, LeO (diff_Bytes.j0 k y0 y1 y2) (diff_Bytes.j0 (k + 1) y0 y1 y2)) ∧ (∀ y0 y1 y2 y3 y4 y5 y6 y7, LeO (diff_Bytes.l0 k y0 y1 y2 y3 y4 y5 y6 y7) (diff_Bytes.l0 (k + 1) y0 y1 y2 y3 y4 y5 y6 y7))
 | 0 => ⟨fun _ _ _ r h => by simp [diff_Bytes.j0] at h, fun _ _ _ _ _ _ _ _ r h => by simp [diff_Bytes.l0] at h⟩
 | k + 1 => by
  obtain ⟨ih0, ih1⟩ := diff_Bytes.mono_l k
  refine ⟨?_, ?_⟩
  ·intro y0 y1 y2
   unfold diff_Bytes.j0
   repeat' first
   | (with_reducible exact ih0 _ _ _)
   | (with_reducible exact ih1 _ _ _ _ _ _ _ _)
   | (with_reducible exact diff_common.mono _ _ _)
   | (with_reducible exact diff_ends.mono _ _ _)
   | (with_reducible exact LeO.refl _)
   | (with_reducible exact LeO.none _)
   | (with_reducible refine LeO.ite ?_ ?_)
   | (with_reducible refine LeO.bind ?_ (fun _ => ?_))
   | exact ih0 _ _ _
   | exact ih1 _ _ _ _ _ _ _ _
   | exact diff_common.mono _ _ _
   | exact diff_ends.mono _ _ _
   | exact LeO.none _
   | refine LeO.ite ?_ ?_
   | refine LeO.bind ?_ (fun _ => ?_)
  ·intro y0 y1 y2 y3 y4 y5 y6 y7
   unfold diff_Bytes.l0
   repeat' first
   | (with_reducible exact ih0 _ _ _)
   | (with_reducible exact ih1 _ _ _ _ _ _ _ _)
   | (with_reducible exact diff_common.mono _ _ _)
   | (with_reducible exact diff_ends.mono _ _ _)
   | (with_reducible exact LeO.refl _)
   | (with_reducible exact LeO.none _)
   | (with_reducible refine LeO.ite ?_ ?_)
   | (with_reducible refine LeO.bind ?_ (fun _ => ?_))
   | exact ih0 _ _ _
   | exact ih1 _ _ _ _ _ _ _ _
   | exact diff_common.mono _ _ _
   | exact diff_ends.mono _ _ _
   | exact LeO.none _
   | refine LeO.ite ?_ ?_
   | refine LeO.bind ?_ (fun _ => ?_)
theorem diff_Bytes.mono : ∀ a0 a1 k, LeO (diff_Bytes.f k a0 a1) (diff_Bytes.f (k + 1) a0 a1) := by
 intro a0 a1 k
 obtain ⟨ih0, ih1⟩ := diff_Bytes.mono_l k
 unfold diff_Bytes.f
 repeat' first
   | (with_reducible exact ih0 _ _ _)
   | (with_reducible exact ih1 _ _ _ _ _ _ _ _)
   | (with_reducible exact diff_common.mono _ _ _)
   | (with_reducible exact diff_ends.mono _ _ _)
   | (with_reducible exact LeO.refl _)
   | (with_reducible exact LeO.none _)
   | (with_reducible refine LeO.ite ?_ ?_)
   | (with_reducible refine LeO.bind ?_ (fun _ => ?_))
   | exact ih0 _ _ _
   | exact ih1 _ _ _ _ _ _ _ _
   | exact diff_common.mono _ _ _
   | exact diff_ends.mono _ _ _
   | exact LeO.none _
   | refine LeO.ite ?_ ?_
   | refine LeO.bind ?_ (fun _ => ?_)
def diff_Bytes.T4 : Bool × List (List Nat × List Nat) := (true, [([], []), ([], []), ([], []), ([2], [2]), ([], []), ([3, 4], [3, 4]), ([0, 1, 5], [0, 1, 5]), ([], []), ([], []), ([], []), ([9], [9]), ([], []), ([10, 11], [10, 11]), ([7, 8, 12], [7, 8, 12]), ([6, 0, 1, 2, 3, 4, 5, 6], [6]), ([13, 14, 0, 1, 2, 3, 4, 5, 6, 7, 8, 9, 10, 11, 12, 13, 14], [13])])
def diff_Bytes.B4 : List Nat := [0, 0, 0, 4, 0, 28, 63, 0, 0, 0, 512, 0, 3584, 8064, 127, 32767]
theorem diff_Bytes.tab4 : rtab .any (opsOf Try.f12 4) = diff_Bytes.T4 := by kernel_rfl
theorem diff_Bytes.bits4 : waitsOk diff_Bytes.T4.2 diff_Bytes.B4 = true := by kernel_rfl
def diff_Bytes.T14 : Bool × List (List Nat × List Nat) := (true, [([], []), ([], []), ([], []), ([1, 2], [1, 2]), ([], []), ([], []), ([5], [5]), ([4, 6], [4, 6]), ([3, 7], [3, 7]), ([], []), ([], []), ([], []), ([11], [11]), ([9, 10, 12], [9, 10, 12]), ([8, 13], [8, 13]), ([14], [14]), ([0, 15], [0, 15]), ([16, 16, 0, 1, 2, 3, 4, 5, 6, 7, 8, 9, 10, 11, 12, 13, 14, 15, 16], [0, 16])])
def diff_Bytes.B14 : List Nat := [0, 0, 0, 6, 0, 0, 32, 112, 254, 0, 0, 0, 2048, 7680, 16382, 32766, 65535, 131071]
theorem diff_Bytes.tab14 : rtab .any (opsOf Try.f12 14) = diff_Bytes.T14 := by kernel_rfl
theorem diff_Bytes.bits14 : waitsOk diff_Bytes.T14.2 diff_Bytes.B14 = true := by kernel_rfl
def diff_Bytes.T15 : Bool × List (List Nat × List Nat) := (true, [([], []), ([0], [0]), ([], []), ([2], [2]), ([1, 3], [1, 3]), ([], []), ([5], [5]), ([], []), ([7], [7]), ([6, 8], [6, 8]), ([4, 0, 1, 2, 3, 4], [4]), ([9, 10, 0, 1, 2, 3, 4, 5, 6, 7, 8, 9, 10], [9])])
def diff_Bytes.B15 : List Nat := [0, 1, 0, 4, 15, 0, 32, 0, 128, 480, 31, 2047]
theorem diff_Bytes.tab15 : rtab .any (opsOf Try.f12 15) = diff_Bytes.T15 := by kernel_rfl
theorem diff_Bytes.bits15 : waitsOk diff_Bytes.T15.2 diff_Bytes.B15 = true := by kernel_rfl
set_option maxHeartbeats 8000000 in
set_option maxRecDepth 100000 in
theorem diff_Bytes.calls (k : Nat) (a0 : ByteArray) (a1 : ByteArray) (r1 : List (S41)) (r2 : Bool) (r3 : Int) (w : World) (h : diff_Bytes.f k a0 a1 = some (r1, r2, r3)) :
  Calls Try.prog 12 #[.string a0, .string a1] w fun e w' => ∃ v0_ : Value, e = .returned (.tuple #[v0_, .bool r2, .int .i64 r3]) ∧ Kd.R k41 41 w' w.heap.size (fun _ => True) v0_ r1 ∧ Below w.heap.size w w' := by
 have hu63 := Try.underlying63
 have hu39 := Try.underlying39
 have hu41 := Try.underlying41
 have HB := Aside0.mk (Below.refl w.heap.size w)
 have H : (if (a0.size : Int) > 16384 then (diff_Bytes.j0 k a0 a1 true) else (diff_Bytes.j0 k a0 a1 (decide ((a1.size : Int) > 16384)))) = some (r1, r2, r3) := h
 clear h
 have HC3 := Aside0.mk H
 clear H
 go_enter Try.func12, Try.ntmps12
 go_upto_region 1 with (fail)
 go_cut [25] (fun v25 wc => ∃ (kq : Nat) (x25_2 : Bool), v25 = .bool x25_2 ∧ Aside0 (diff_Bytes.j0 kq a0 a1 x25_2 = some (r1, r2, r3)) ∧ Aside0 (kq ≤ k) ∧ Aside0 (Below w.heap.size w wc))
 case first =>
  have H := HC3.out
  clear HC3
  by_cases c4 : (a0.size : Int) > 16384
  ·rw [if_pos c4] at H
   have c4b0 : decide (16384 < (a0.size : Int)) = true := decide_eq_true c4
   have c4b1 : decide (16384 < a0.size) = true := decide_eq_true (by omega)
   clear c4
   (first | rw [c4b0] | (simp only [i64_w, i32_w]; rw [c4b0]) | skip)
   have H' := Aside0.mk H
   clear H
   go_wp2
   go_meet
   case rel => exact ⟨_, (true), (by first | rfl | (simp; done) | (simp [*]; done)), H', ⟨by first | omega | exact Nat.le_refl _⟩, ⟨pxb HB⟩⟩
  ·rw [if_neg c4] at H
   have c4b0 : decide (16384 < (a0.size : Int)) = false := decide_eq_false c4
   have c4b1 : decide (16384 < a0.size) = false := decide_eq_false (by omega)
   clear c4
   (first | rw [c4b0] | (simp only [i64_w, i32_w]; rw [c4b0]) | skip)
   have H' := Aside0.mk H
   clear H
   go_wp2
   go_meet
   case rel => exact ⟨_, (decide ((a1.size : Int) > 16384)), (by first | rfl | (simp; done) | (simp [*]; done)), H', ⟨by first | omega | exact Nat.le_refl _⟩, ⟨pxb HB⟩⟩
 case rest => as_aux_lemma =>
  clear HC3
  (try clear c1); (try clear p2); (try clear c4); (try clear c4b0); (try clear c4b1)
  obtain ⟨kq, x25_2, rfl, HA, HJ2, HB⟩ := hcut
  cases kq with
  | zero => exact absurd HA.out (by simp [diff_Bytes.j0])
  | succ kj2 =>
   have H := HA.out
   clear HA
   simp only [diff_Bytes.j0] at H
   by_cases c5 : x25_2 = true
   ·subst c5
    have H1 : (some (([] : List (S41)), false, 2)) = some (r1, r2, r3) := by rw [if_pos rfl] at H; exact H
    clear H
    have H := H1
    clear H1
    simp only [Option.some.injEq, Prod.mk.injEq] at H
    obtain ⟨rfl, rfl, rfl⟩ := H
    go_wp2
    go_ret3
    exact ⟨_, by first | rfl | (simp [errW_none, errW_some] <;> rfl) | (simp [*, errW_none, errW_some] <;> rfl), by first | exact Kd.R_nil _ _ _ _ _ | exact Kd.N_nil _ _ _ _ _ | exact Kd.V_nil _ _ _ _ _ | exact Kd.Q_nil _ _ _ _ _ | exact Kd.S_nil _ _ _ _ _, pxb HB⟩
   ·replace c5 := Bool.eq_false_iff.mpr c5
    subst c5
    have H1 : ((diff_ends.f kj2 a0 a1).bind fun bt164 => (if 0 ≤ bt164.1 then (if bt164.1 ≤ (wrap64 ((a0.size : Int) - bt164.2)) then (if (wrap64 ((a0.size : Int) - bt164.2)) ≤ (a0.size : Int) then (if bt164.1 ≤ (wrap64 ((a1.size : Int) - bt164.2)) then (if (wrap64 ((a1.size : Int) - bt164.2)) ≤ (a1.size : Int) then ((diff_common.f kj2 (a0.extract (bt164.1 : Int).toNat ((wrap64 ((a0.size : Int) - bt164.2)) : Int).toNat) (a1.extract (bt164.1 : Int).toNat ((wrap64 ((a1.size : Int) - bt164.2)) : Int).toNat)).bind fun bt166 => (if bt166.2 = true then (if bt166.1.length < 5864062014805 then ((some (bt166.1 ++ [(⟨((a0.extract (bt164.1 : Int).toNat ((wrap64 ((a0.size : Int) - bt164.2)) : Int).toNat).size : Int), ((a1.extract (bt164.1 : Int).toNat ((wrap64 ((a1.size : Int) - bt164.2)) : Int).toNat).size : Int), 0⟩ : S63)] : List (S63))).bind fun y173 => (diff_Bytes.l0 kj2 bt164.1 (a1.extract (bt164.1 : Int).toNat ((wrap64 ((a1.size : Int) - bt164.2)) : Int).toNat) ([] : List (S41)) 0 0 y173 (y173.length : Int) 0)) else (none)) else ((diff_one.f bt164.1 (a0.extract (bt164.1 : Int).toNat ((wrap64 ((a0.size : Int) - bt164.2)) : Int).toNat) (a1.extract (bt164.1 : Int).toNat ((wrap64 ((a1.size : Int) - bt164.2)) : Int).toNat)).bind fun t170 => (some (t170, false, 0))))) else (none)) else (none)) else (none)) else (none)) else (none))) = some (r1, r2, r3) := by rw [if_neg (show ¬ (false = true) by decide)] at H; exact H
    clear H
    have H := H1
    clear H1
    replace H := Option.bind_eq_some_iff.mp H
    obtain ⟨⟨t164, t165⟩, A60, H⟩ := H
    replace H : (if 0 ≤ t164 then (if t164 ≤ (wrap64 ((a0.size : Int) - t165)) then (if (wrap64 ((a0.size : Int) - t165)) ≤ (a0.size : Int) then (if t164 ≤ (wrap64 ((a1.size : Int) - t165)) then (if (wrap64 ((a1.size : Int) - t165)) ≤ (a1.size : Int) then ((diff_common.f kj2 (a0.extract (t164 : Int).toNat ((wrap64 ((a0.size : Int) - t165)) : Int).toNat) (a1.extract (t164 : Int).toNat ((wrap64 ((a1.size : Int) - t165)) : Int).toNat)).bind fun bt166 => (if bt166.2 = true then (if bt166.1.length < 5864062014805 then ((some (bt166.1 ++ [(⟨((a0.extract (t164 : Int).toNat ((wrap64 ((a0.size : Int) - t165)) : Int).toNat).size : Int), ((a1.extract (t164 : Int).toNat ((wrap64 ((a1.size : Int) - t165)) : Int).toNat).size : Int), 0⟩ : S63)] : List (S63))).bind fun y173 => (diff_Bytes.l0 kj2 t164 (a1.extract (t164 : Int).toNat ((wrap64 ((a1.size : Int) - t165)) : Int).toNat) ([] : List (S41)) 0 0 y173 (y173.length : Int) 0)) else (none)) else ((diff_one.f t164 (a0.extract (t164 : Int).toNat ((wrap64 ((a0.size : Int) - t165)) : Int).toNat) (a1.extract (t164 : Int).toNat ((wrap64 ((a1.size : Int) - t165)) : Int).toNat)).bind fun t170 => (some (t170, false, 0))))) else (none)) else (none)) else (none)) else (none)) else (none)) = some (r1, r2, r3) := H
    have A6 := Aside0.mk A60
    clear A60
    by_cases c7 : 0 ≤ t164
    ·rw [if_pos c7] at H
     have c7b0 := eq_true c7
     have c7b1 : decide (0 ≤ t164) = true := decide_eq_true c7
     clear c7
     by_cases c8 : t164 ≤ (wrap64 ((a0.size : Int) - t165))
     ·rw [if_pos c8] at H
      have c8b0 := eq_true c8
      have c8b1 : decide (t164 ≤ (wrap64 ((a0.size : Int) - t165))) = true := decide_eq_true c8
      clear c8
      by_cases c9 : (wrap64 ((a0.size : Int) - t165)) ≤ (a0.size : Int)
      ·rw [if_pos c9] at H
       have c9b0 := eq_true c9
       have c9b1 : decide ((wrap64 ((a0.size : Int) - t165)) ≤ (a0.size : Int)) = true := decide_eq_true c9
       clear c9
       have c10b0 := eq_true (pxd : 0 ≤ t164)
       by_cases c11 : t164 ≤ (wrap64 ((a1.size : Int) - t165))
       ·rw [if_pos c11] at H
        have c11b0 := eq_true c11
        have c11b1 : decide (t164 ≤ (wrap64 ((a1.size : Int) - t165))) = true := decide_eq_true c11
        clear c11
        by_cases c12 : (wrap64 ((a1.size : Int) - t165)) ≤ (a1.size : Int)
        ·rw [if_pos c12] at H
         have c12b0 := eq_true c12
         have c12b1 : decide ((wrap64 ((a1.size : Int) - t165)) ≤ (a1.size : Int)) = true := decide_eq_true c12
         clear c12
         replace H := Option.bind_eq_some_iff.mp H
         obtain ⟨⟨t166, t167⟩, A130, H⟩ := H
         replace H : (if t167 = true then (if t166.length < 5864062014805 then ((some (t166 ++ [(⟨((a0.extract (t164 : Int).toNat ((wrap64 ((a0.size : Int) - t165)) : Int).toNat).size : Int), ((a1.extract (t164 : Int).toNat ((wrap64 ((a1.size : Int) - t165)) : Int).toNat).size : Int), 0⟩ : S63)] : List (S63))).bind fun y173 => (diff_Bytes.l0 kj2 t164 (a1.extract (t164 : Int).toNat ((wrap64 ((a1.size : Int) - t165)) : Int).toNat) ([] : List (S41)) 0 0 y173 (y173.length : Int) 0)) else (none)) else ((diff_one.f t164 (a0.extract (t164 : Int).toNat ((wrap64 ((a0.size : Int) - t165)) : Int).toNat) (a1.extract (t164 : Int).toNat ((wrap64 ((a1.size : Int) - t165)) : Int).toNat)).bind fun t170 => (some (t170, false, 0)))) = some (r1, r2, r3) := H
         have A13 := Aside0.mk A130
         clear A130
         by_cases c14 : t167 = true
         ·subst c14
          have H1 : (if t166.length < 5864062014805 then ((some (t166 ++ [(⟨((a0.extract (t164 : Int).toNat ((wrap64 ((a0.size : Int) - t165)) : Int).toNat).size : Int), ((a1.extract (t164 : Int).toNat ((wrap64 ((a1.size : Int) - t165)) : Int).toNat).size : Int), 0⟩ : S63)] : List (S63))).bind fun y173 => (diff_Bytes.l0 kj2 t164 (a1.extract (t164 : Int).toNat ((wrap64 ((a1.size : Int) - t165)) : Int).toNat) ([] : List (S41)) 0 0 y173 (y173.length : Int) 0)) else (none)) = some (r1, r2, r3) := by rw [if_pos rfl] at H; exact H
          clear H
          have H := H1
          clear H1
          by_cases c15 : t166.length < 5864062014805
          ·rw [if_pos c15] at H
           have LMc15 := Aside0.mk c15
           clear c15
           obtain ⟨y173, hy173⟩ : ∃ y_ : List (S63), y_ = (t166 ++ [(⟨((a0.extract (t164 : Int).toNat ((wrap64 ((a0.size : Int) - t165)) : Int).toNat).size : Int), ((a1.extract (t164 : Int).toNat ((wrap64 ((a1.size : Int) - t165)) : Int).toNat).size : Int), 0⟩ : S63)]) := ⟨_, rfl⟩
           replace H : (diff_Bytes.l0 kj2 t164 (a1.extract (t164 : Int).toNat ((wrap64 ((a1.size : Int) - t165)) : Int).toNat) ([] : List (S41)) 0 0 y173 (y173.length : Int) 0) = some (r1, r2, r3) := by first | (rw [hy173]; with_reducible exact H) | (have H2_ := (Option.bind_some _ _).symm.trans H; rw [hy173]; with_reducible exact H2_) | (have H2_ := (Option.bind_some _ _).symm.trans H; with_reducible exact H2_) | with_reducible exact H | (rw [hy173]; exact H) | exact H
           have Ny173 := Aside0.mk hy173
           clear hy173
           have H' := Aside0.mk H
           clear H
           try go_wp2_with (first | ((with_reducible refine gate_callee (f := 25) rfl ?_); refine goesL_ (some 29) rfl rfl Try.func25 (by kernel_rfl) rfl #[.string a0, .string a1] rfl (by (try simp only [List.map_toArray, List.map_cons, List.map_nil]); first | done | rfl | (simp only [List.length_drop, List.length_take]; rfl)) ?_; (with_reducible refine (diff_ends.calls kj2 a0 a1 t164 t165 _ A6.out).mono ?_); rintro e w' ⟨rfl, ⟨nd, rfl⟩⟩; refine ⟨_, rfl, ?_⟩))
           (try (rw [drewN_self wc]; generalize hq_ : World.drewN wc _ = wc; have n0_ : Aside0 (Below w.heap.size w wc) := ⟨by rw [← hq_]; exact (pxb HB)⟩; clear HB hq_; have HB := n0_; clear n0_))
           have n0_ := Aside0.mk (below_drew1 HB.out)
           clear HB
           have HB := n0_
           clear n0_
           refine start_ (n := 16) (S := fun w' => True) (ds := []) #[false, false, false, false, false, false, false, false, false, false, false, false, false, false, false, false] (by kernel_rfl) rfl rfl trivial (fun hHeld => ?_); refine with_tabW diff_Bytes.tab4 diff_Bytes.bits4 (fun HT_ HW_ => ?_)
           generalize wc.drew = w16 at HB hHeld ⊢
           refine pS 0 32 HT_ ?_
           refine pS 1 33 HT_ ?_
           refine pS 2 34 HT_ ?_
           refine pS 3 35 HT_ ?_
           refine pS 4 36 HT_ ?_
           refine pS 5 37 HT_ ?_
           refine pS 6 38 HT_ ?_
           refine pS 7 39 HT_ ?_
           refine pS 8 40 HT_ ?_
           refine pS 9 41 HT_ ?_
           refine pS 10 42 HT_ ?_
           refine pS 11 43 HT_ ?_
           refine pS 12 44 HT_ ?_
           refine pS 13 45 HT_ ?_
           refine pS 14 9 HT_ ?_
           refine pS 15 10 HT_ ?_
           refine done_ (done_of HT_.out (by kernel_rfl)) ?_
           obtain ⟨xs0, hxs0⟩ : ∃ x_ : ByteArray, a0.extract (t164 : Int).toNat ((wrap64 ((a0.size : Int) - t165)) : Int).toNat = x_ := ⟨_, rfl⟩
           obtain ⟨ys0, hys0⟩ : ∃ x_ : ByteArray, a1.extract (t164 : Int).toNat ((wrap64 ((a1.size : Int) - t165)) : Int).toNat = x_ := ⟨_, rfl⟩
           simp only [hxs0, hys0] at *
           clear hxs0 hys0
           try go_wp2_with (first | ((with_reducible refine gate_callee (f := 26) rfl ?_); refine goesL_ (some 49) rfl rfl Try.func26 (by kernel_rfl) rfl #[.string xs0, .string ys0] rfl (by (try simp only [List.map_toArray, List.map_cons, List.map_nil]); first | done | rfl | (simp only [List.length_drop, List.length_take]; rfl)) ?_; (with_reducible refine (diff_common.calls kj2 xs0 ys0 t166 true _ A13.out).mono ?_); rintro e w17 ⟨v168, rfl, ho0, hb⟩; refine ⟨_, rfl, ?_⟩; have HO169 := Aside0.mk (Kd.R_lower ho0 (below_size (pxb HB))); replace HB := pxs HB hb; (try clear hb); (try clear hb2); (try clear hk); (try clear hi); (try clear ho0)) | ((with_reducible refine gate_builtin (b := .append) (xs := #[.tmp 58, .tmp 64]) rfl ?_); at_builtin; refine Kd.R_append k63 (w0 := w) w.heap.size rfl (.tmp 58) (.tmp 64) 59 63 (.agg #[(.int .i64 0), (.int .i64 0), (.int .i64 0)]) 24 rfl Try.underlying59 info63 rfl (by decide) (by omega) v168 t166 (⟨(xs0.size : Int), (ys0.size : Int), 0⟩ : S63) [.int .i64 (xs0.size : Int), .int .i64 (ys0.size : Int), .int .i64 0] (fun _ => True) (fun _ => False) rfl rfl ?aP (fun _ hk => hk.elim) ?aF ?aO ?aB ?aS ?aL ?_; (case aP => exact k63_mkM _ _ _ (⟨(xs0.size : Int), (ys0.size : Int), 0⟩ : S63)); (case aB => exact (pxb HB)); (case aF => exact (fun _ _ => trivial)); (case aO => exact (pxr HO169)); (case aS => exact (below_size (pxb HB))); (case aL => have := LMc15.out; omega); intro v174 w18 ho hb hg hat; rw [← Ny173.out] at ho; have n0_ := Aside0.mk (hb); have n1_ := Aside0.mk (ho); clear HB; clear HO169; have HB := n0_; have HO175 := n1_; clear n0_ n1_; clear ho hb hg hat; obtain ⟨Ao19, co19, eo19⟩ := Kd.R_slice HO175.out; subst eo19))
           go_loopg [13, 14, 15, 67] kj2 (fun kq v13 v14 v15 v67 w' => ∃ (x13_2 : List (S41)) (x14_2 : Int) (x15_2 : Int) (x67_2 : Int), v14 = .int .i64 x14_2 ∧ v15 = .int .i64 x15_2 ∧ v67 = .int .i64 x67_2 ∧ Aside0 (diff_Bytes.l0 kq t164 ys0 x13_2 x14_2 x15_2 y173 (y173.length : Int) x67_2 = some (r1, r2, r3)) ∧ Aside0 (kq ≤ kj2) ∧ Aside0 (Kd.R k41 41 w' w.heap.size (fun _ => True) v13 x13_2) ∧ Aside0 (Kd.R k63 63 w' w.heap.size (fun _ => True) (.slice Ao19 y173.length co19) y173) ∧ Aside0 (Below w.heap.size w w'))
           case atStart => exact ⟨(([] : List (S41))), (0), (0), (0), (by first | rfl | (simp; done) | (simp [*]; done)), (by first | rfl | (simp; done) | (simp [*]; done)), (by first | rfl | (simp; done) | (simp [*]; done)), H', ⟨Nat.le_refl _⟩, ⟨by first | exact Kd.R_nil _ _ _ _ _ | exact Kd.N_nil _ _ _ _ _ | exact Kd.V_nil _ _ _ _ _ | exact Kd.Q_nil _ _ _ _ _ | exact Kd.S_nil _ _ _ _ _⟩, ⟨pxr HO175⟩, ⟨pxb HB⟩⟩
           case round =>
            clear H'
            (try clear c1); (try clear c2); (try clear p2); (try clear c4); (try clear c4b0); (try clear c4b1); (try clear c5); (try clear p6); (try clear c7); (try clear c7b0); (try clear c7b1); (try clear c8); (try clear c8b0); (try clear c8b1); (try clear c9); (try clear c9b0); (try clear c9b1); (try clear c10); (try clear c10b0); (try clear c11); (try clear c11b0); (try clear c11b1); (try clear c12); (try clear c12b0); (try clear c12b1); (try clear c14); (try clear c15)
            obtain ⟨x13_2, x14_2, x15_2, x67_2, rfl, rfl, rfl, HA, HK2, HO_13, HO_65, HB⟩ := hrel
            cases gk with
            | zero => exact absurd HA.out (by simp [diff_Bytes.l0])
            | succ k2 =>
             have H := HA.out
             clear HA
             simp only [diff_Bytes.l0] at H
             by_cases c20 : x67_2 < (y173.length : Int)
             ·rw [if_pos c20] at H
              have c20b0 : decide (x67_2 < (y173.length : Int)) = true := decide_eq_true c20
              clear c20
              by_cases c21 : 0 ≤ x67_2
              ·rw [if_pos c21] at H
               have c21b0 : decide (0 ≤ x67_2) = true := decide_eq_true c21
               clear c21
               by_cases c22 : x67_2 < (y173.length : Int)
               ·rw [if_pos c22] at H
                have c22b0 : decide (x67_2 < (y173.length : Int)) = true := decide_eq_true c22
                clear c22
                by_cases c23 : x14_2 < ((rd_T63 y173 x67_2).f0)
                ·rw [if_pos c23] at H
                 have c23b0 : decide (x14_2 < ((rd_T63 y173 x67_2).f0)) = true := decide_eq_true c23
                 clear c23
                 by_cases c24 : 0 ≤ x15_2
                 ·rw [if_pos c24] at H
                  have c24b0 := eq_true c24
                  have c24b1 : decide (0 ≤ x15_2) = true := decide_eq_true c24
                  clear c24
                  by_cases c25 : x15_2 ≤ ((rd_T63 y173 x67_2).f1)
                  ·rw [if_pos c25] at H
                   have c25b0 := eq_true c25
                   have c25b1 : decide (x15_2 ≤ ((rd_T63 y173 x67_2).f1)) = true := decide_eq_true c25
                   clear c25
                   by_cases c26 : ((rd_T63 y173 x67_2).f1) ≤ (ys0.size : Int)
                   ·rw [if_pos c26] at H
                    have c26b0 := eq_true c26
                    have c26b1 : decide (((rd_T63 y173 x67_2).f1) ≤ (ys0.size : Int)) = true := decide_eq_true c26
                    clear c26
                    by_cases c27 : x13_2.length < 4398046511104
                    ·rw [if_pos c27] at H
                     have LMc27 := Aside0.mk c27
                     clear c27
                     obtain ⟨y178, hy178⟩ : ∃ y_ : List (S41), y_ = (x13_2 ++ [(⟨(⟨wrap64 (t164 + x14_2), wrap64 (t164 + ((rd_T63 y173 x67_2).f0))⟩ : S39), ys0.extract (x15_2 : Int).toNat (((rd_T63 y173 x67_2).f1) : Int).toNat⟩ : S41)]) := ⟨_, rfl⟩
                     replace H : (diff_Bytes.l0 k2 t164 ys0 y178 (wrap64 (((rd_T63 y173 x67_2).f0) + ((rd_T63 y173 x67_2).f2))) (wrap64 (((rd_T63 y173 x67_2).f1) + ((rd_T63 y173 x67_2).f2))) y173 (y173.length : Int) (wrap64 (x67_2 + 1))) = some (r1, r2, r3) := by first | (rw [hy178]; with_reducible exact H) | (have H2_ := (Option.bind_some _ _).symm.trans H; rw [hy178]; with_reducible exact H2_) | (have H2_ := (Option.bind_some _ _).symm.trans H; with_reducible exact H2_) | with_reducible exact H | (rw [hy178]; exact H) | exact H
                     have Ny178 := Aside0.mk hy178
                     clear hy178
                     have H' := Aside0.mk H
                     clear H
                     have p176 : 0 ≤ (x67_2 : Int) := pxd
                     have q176 : x67_2 < (y173.length : Int) := pxd
                     obtain ⟨ad176, e176, hx176_0, hx176_1, hx176_2⟩ := at_T63 (Kd.R_reads' HO_65.out).2.2 x67_2 p176 q176
                     cases e176
                     replace p176 := eq_true p176
                     replace q176 := eq_true q176
                     try go_wp2_with (first | ((with_reducible refine gate_dst (N := 17) rfl ?_); refine box_event ?hg (N := 17) ?hd (cs := #[.int .i64 0, .int .i64 0, .int .i64 0]) (t := 63) ?hr ?_; (case hd => rfl); (case hg => rfl); (case hr => first | (go_simp; done) | (go_simp; rfl)); intro gb177 hg w28 hbox hb; have BK177 := Aside0.mk (hbox); have GW177 := pxw HB hg; have GE177 := pxw HB hg; replace HO_13 := Aside0.mk (Kd.R_below (pxr HO_13) hb); replace HO_65 := Aside0.mk (Kd.R_below (Kd.R_elderB (pxr HO_65) gb177 (Nat.le_of_eq hg.symm)) hb); replace HB := pxs HB hb; clear hb hbox hg; obtain ⟨hcz29_0, hcz29_1, hcz29_2, hfz29_0, hfz29_1, hfz29_2⟩ := pxf3 BK177))
                     have n0_ : Aside0 (Kd.R k41 41 (((w28.setCell ⟨gb177, 0, none⟩ (.int .i64 ((rd_T63 y173 x67_2).f0))).setCell ⟨gb177, 1, none⟩ (.int .i64 ((rd_T63 y173 x67_2).f1))).setCell ⟨gb177, 2, none⟩ (.int .i64 ((rd_T63 y173 x67_2).f2))) w.heap.size (fun _ => True) u13 x13_2) := ⟨by (with_reducible repeat (first | apply Kd.R_alloc | apply Kd.R_drewN | apply Kd.R_drew)); exact Kd.R_mono (Kd.R_far (p := ⟨gb177, 2, none⟩) (Kd.R_far (p := ⟨gb177, 1, none⟩) (Kd.R_far (p := ⟨gb177, 0, none⟩) (Kd.R_types HO_13.out BK177.out (by decide)) (fun _ hk => hk.2) (.int .i64 ((rd_T63 y173 x67_2).f0))) (fun _ hk => hk.2) (.int .i64 ((rd_T63 y173 x67_2).f1))) (fun _ hk => hk.2) (.int .i64 ((rd_T63 y173 x67_2).f2))) (fun _ hk => trivial)⟩
                     have n1_ : Aside0 (Kd.R k63 63 (((w28.setCell ⟨gb177, 0, none⟩ (.int .i64 ((rd_T63 y173 x67_2).f0))).setCell ⟨gb177, 1, none⟩ (.int .i64 ((rd_T63 y173 x67_2).f1))).setCell ⟨gb177, 2, none⟩ (.int .i64 ((rd_T63 y173 x67_2).f2))) w.heap.size (fun k_ => k_ ≠ gb177) (.slice (some ad176) y173.length co19) y173) := ⟨by (with_reducible repeat (first | apply Kd.R_alloc | apply Kd.R_drewN | apply Kd.R_drew)); exact Kd.R_mono (Kd.R_far (p := ⟨gb177, 2, none⟩) (Kd.R_far (p := ⟨gb177, 1, none⟩) (Kd.R_far (p := ⟨gb177, 0, none⟩) (Kd.R_mono HO_65.out (fun k_ hk => (⟨hk, hk.2⟩ : _ ∧ k_ ≠ gb177))) (fun _ hk => hk.2) (.int .i64 ((rd_T63 y173 x67_2).f0))) (fun _ hk => hk.2) (.int .i64 ((rd_T63 y173 x67_2).f1))) (fun _ hk => hk.2) (.int .i64 ((rd_T63 y173 x67_2).f2))) (fun _ hk => hk.1.2)⟩
                     have n2_ : Aside0 ((((w28.setCell ⟨gb177, 0, none⟩ (.int .i64 ((rd_T63 y173 x67_2).f0))).setCell ⟨gb177, 1, none⟩ (.int .i64 ((rd_T63 y173 x67_2).f1))).setCell ⟨gb177, 2, none⟩ (.int .i64 ((rd_T63 y173 x67_2).f2))).heap[gb177]? = some (.cells #[.int .i64 ((rd_T63 y173 x67_2).f0), .int .i64 ((rd_T63 y173 x67_2).f1), .int .i64 ((rd_T63 y173 x67_2).f2)] 63 (0, 0))) := ⟨pxp BK177⟩
                     have n3_ : Aside0 (Below w.heap.size w (((w28.setCell ⟨gb177, 0, none⟩ (.int .i64 ((rd_T63 y173 x67_2).f0))).setCell ⟨gb177, 1, none⟩ (.int .i64 ((rd_T63 y173 x67_2).f1))).setCell ⟨gb177, 2, none⟩ (.int .i64 ((rd_T63 y173 x67_2).f2)))) := ⟨pxb HB⟩
                     (try clear HO_13)
                     (try clear HO_65)
                     (try clear BK177)
                     (try clear HB)
                     generalize (((w28.setCell ⟨gb177, 0, none⟩ (.int .i64 ((rd_T63 y173 x67_2).f0))).setCell ⟨gb177, 1, none⟩ (.int .i64 ((rd_T63 y173 x67_2).f1))).setCell ⟨gb177, 2, none⟩ (.int .i64 ((rd_T63 y173 x67_2).f2))) = w30 at n0_ n1_ n2_ n3_ ⊢
                     have HO_13 := n0_
                     have HO_65 := n1_
                     have BK177 := n2_
                     have HB := n3_
                     clear n0_ n1_ n2_ n3_
                     have n0_ := Aside0.mk (Kd.R_drew HO_13.out)
                     have n1_ := Aside0.mk (Kd.R_drew HO_65.out)
                     have n2_ := Aside0.mk (blk_drew BK177.out)
                     have n3_ := Aside0.mk (below_drew1 HB.out)
                     clear HO_13
                     clear HO_65
                     clear BK177
                     clear HB
                     have HO_13 := n0_
                     have HO_65 := n1_
                     have BK177 := n2_
                     have HB := n3_
                     clear n0_ n1_ n2_ n3_
                     refine start_ (n := 18) (S := fun w' => w'.cell? ⟨gb177, 0, none⟩ = some (.int .i64 ((rd_T63 y173 x67_2).f0)) ∧ w'.cell? ⟨gb177, 1, none⟩ = some (.int .i64 ((rd_T63 y173 x67_2).f1)) ∧ w'.cell? ⟨gb177, 2, none⟩ = some (.int .i64 ((rd_T63 y173 x67_2).f2))) (ds := []) #[false, false, false, false, false, false, false, false, false, false, false, false, false, false, false, false, false, false] (by kernel_rfl) rfl rfl ⟨(blk_cell BK177.out 0).trans rfl, (blk_cell BK177.out 1).trans rfl, (blk_cell BK177.out 2).trans rfl⟩ (fun hHeld => ?_); refine with_tabW diff_Bytes.tab14 diff_Bytes.bits14 (fun HT_ HW_ => ?_)
                     generalize w30.drew = w31 at HO_13 HO_65 BK177 HB hHeld ⊢
                     refine pS 0 81 HT_ ?_
                     refine pS 1 82 HT_ ?_
                     refine pS 2 83 HT_ ?_
                     refine pS 3 84 HT_ ?_
                     refine pS 4 85 HT_ ?_
                     refine pS 5 86 HT_ ?_
                     refine pS 9 90 HT_ ?_
                     refine pS 10 91 HT_ ?_
                     refine pS 11 92 HT_ ?_
                     refine tS 6 87 HT_ HW_ hHeld ?_
                     refine pS 7 88 HT_ ?_
                     refine pS 8 89 HT_ ?_
                     refine tS 12 93 HT_ HW_ hHeld ?_
                     refine pS 13 94 HT_ ?_
                     refine pS 14 95 HT_ ?_
                     refine oS 15 HT_ (fun K hK => ?_)
                     refine value_ (w1 := ?_) (v := ?_) (by rfl) rfl ?_ ?_
                     rotate_left 2
                     ·go_simp
                      constructor
                      ·rfl
                      ·rfl
                     refine hK.out _ _ ⟨(blk_cell (blk_alloc BK177.out _) 0).trans rfl, (blk_cell (blk_alloc BK177.out _) 1).trans rfl, (blk_cell (blk_alloc BK177.out _) 2).trans rfl⟩ (fun hHeld => ?_)
                     clear hK K
                     refine nS 96 ?_
                     refine oS 16 HT_ (fun K hK => ?_)
                     refine Kd.R_append_step k41 (w0 := w) w.heap.size (by rfl) (.tmp 81) (.tmp 96) 23 41 (.agg #[(.int .i64 0), (.int .i64 0), (.string ⟨#[]⟩)]) 32 rfl Try.underlying23 info41 rfl (by decide) (by omega) u13 x13_2 (⟨(⟨wrap64 (t164 + x14_2), wrap64 (t164 + ((rd_T63 y173 x67_2).f0))⟩ : S39), ys0.extract (x15_2 : Int).toNat (((rd_T63 y173 x67_2).f1) : Int).toNat⟩ : S41) [.int .i64 (wrap64 (t164 + x14_2)), .int .i64 (wrap64 (t164 + ((rd_T63 y173 x67_2).f0))), .string (ys0.extract (x15_2 : Int).toNat (((rd_T63 y173 x67_2).f1) : Int).toNat)] (fun _ => True) (fun _ => False) rfl rfl ?aP (fun _ hk => hk.elim) ?aF ?aO ?aB ?aS ?aL ?_
                     (case aP => exact k41_mkM _ _ _ (⟨(⟨wrap64 (t164 + x14_2), wrap64 (t164 + ((rd_T63 y173 x67_2).f0))⟩ : S39), ys0.extract (x15_2 : Int).toNat (((rd_T63 y173 x67_2).f1) : Int).toNat⟩ : S41))
                     (case aB => exact (pxb HB))
                     (case aF => exact (fun _ _ => trivial))
                     (case aO => exact (pxr HO_13))
                     (case aS => exact (below_size (pxb HB)))
                     (case aL => have := LMc27.out; omega)
                     intro v179 w32 ho hb hg hat
                     rw [← Ny178.out] at ho
                     have n0_ := Aside0.mk (Kd.R_over' (pxr HO_65) (Kd.R_typed (pxr HO_13)) (by decide) hg)
                     have n1_ := Aside0.mk (blk_grown (g := gb177) (o := .cells #[.int .i64 ((rd_T63 y173 x67_2).f0), .int .i64 ((rd_T63 y173 x67_2).f1), .int .i64 ((rd_T63 y173 x67_2).f2)] 63 (0, 0)) (pxq BK177) hg (Kd.R_ne HO_13.out BK177.out (by decide)))
                     have n2_ := Aside0.mk (hb)
                     have n3_ := Aside0.mk (ho)
                     clear HO_65
                     clear BK177
                     clear HB
                     clear HO_13
                     have HO_65 := n0_
                     have BK177 := n1_
                     have HB := n2_
                     have HO180 := n3_
                     clear n0_ n1_ n2_ n3_
                     clear ho hb hg hat
                     refine hK.out _ _ ⟨(blk_cell BK177.out 0).trans rfl, (blk_cell BK177.out 1).trans rfl, (blk_cell BK177.out 2).trans rfl⟩ (fun hHeld => ?_)
                     clear hK K
                     refine nS 97 ?_
                     refine pS 17 13 HT_ ?_
                     refine done_ (done_of HT_.out (by kernel_rfl)) ?_
                     try go_wp2
                     have n0_ := Aside0.mk (Kd.R_drew HO_65.out)
                     have n1_ := Aside0.mk (Kd.R_drew HO180.out)
                     have n2_ := Aside0.mk (blk_drew BK177.out)
                     have n3_ := Aside0.mk (below_drew1 HB.out)
                     clear HO_65
                     clear HO180
                     clear BK177
                     clear HB
                     have HO_65 := n0_
                     have HO180 := n1_
                     have BK177 := n2_
                     have HB := n3_
                     clear n0_ n1_ n2_ n3_
                     refine start_ (n := 12) (S := fun w' => w'.cell? ⟨gb177, 0, none⟩ = some (.int .i64 ((rd_T63 y173 x67_2).f0)) ∧ w'.cell? ⟨gb177, 1, none⟩ = some (.int .i64 ((rd_T63 y173 x67_2).f1)) ∧ w'.cell? ⟨gb177, 2, none⟩ = some (.int .i64 ((rd_T63 y173 x67_2).f2))) (ds := []) #[false, false, false, false, false, false, false, false, false, false, false, false] (by kernel_rfl) rfl rfl ⟨(blk_cell BK177.out 0).trans rfl, (blk_cell BK177.out 1).trans rfl, (blk_cell BK177.out 2).trans rfl⟩ (fun hHeld => ?_); refine with_tabW diff_Bytes.tab15 diff_Bytes.bits15 (fun HT_ HW_ => ?_)
                     generalize w32.drew = w33 at HO_65 HO180 BK177 HB hHeld ⊢
                     refine pS 0 98 HT_ ?_
                     refine pS 2 100 HT_ ?_
                     refine pS 5 103 HT_ ?_
                     refine pS 7 105 HT_ ?_
                     refine tS 1 99 HT_ HW_ hHeld ?_
                     refine tS 3 101 HT_ HW_ hHeld ?_
                     refine pS 4 102 HT_ ?_
                     refine pS 10 14 HT_ ?_
                     refine tS 6 104 HT_ HW_ hHeld ?_
                     refine tS 8 106 HT_ HW_ hHeld ?_
                     refine pS 9 107 HT_ ?_
                     refine pS 11 15 HT_ ?_
                     refine done_ (done_of HT_.out (by kernel_rfl)) ?_
                     try go_wp2
                     go_roundg k2
                     case measure => have := HJ2.out; have := HK2.out; omega
                     case rel => exact ⟨(y178), (wrap64 (((rd_T63 y173 x67_2).f0) + ((rd_T63 y173 x67_2).f2))), (wrap64 (((rd_T63 y173 x67_2).f1) + ((rd_T63 y173 x67_2).f2))), (wrap64 (x67_2 + 1)), (by first | rfl | (simp; done) | (simp [*]; done)), (by first | rfl | (simp; done) | (simp [*]; done)), (by first | rfl | (simp; done) | (simp [*]; done)), H', ⟨by have := HJ2.out; have := HK2.out; omega⟩, ⟨pxr HO180⟩, ⟨by (with_reducible repeat (first | apply Kd.R_alloc | apply Kd.R_drewN | apply Kd.R_drew)); exact Kd.R_mono HO_65.out (fun _ hk => trivial)⟩, ⟨pxb HB⟩⟩
                    ·rw [if_neg c27] at H
                     exact absurd H (by simp)
                   ·rw [if_neg c26] at H
                    exact absurd H (by simp)
                  ·rw [if_neg c25] at H
                   exact absurd H (by simp)
                 ·rw [if_neg c24] at H
                  exact absurd H (by simp)
                ·rw [if_neg c23] at H
                 have c23b0 : decide (x14_2 < ((rd_T63 y173 x67_2).f0)) = false := decide_eq_false c23
                 clear c23
                 by_cases c34 : x15_2 < ((rd_T63 y173 x67_2).f1)
                 ·rw [if_pos c34] at H
                  have c34b0 : decide (x15_2 < ((rd_T63 y173 x67_2).f1)) = true := decide_eq_true c34
                  clear c34
                  by_cases c35 : 0 ≤ x15_2
                  ·rw [if_pos c35] at H
                   have c35b0 := eq_true c35
                   have c35b1 : decide (0 ≤ x15_2) = true := decide_eq_true c35
                   clear c35
                   by_cases c36 : x15_2 ≤ ((rd_T63 y173 x67_2).f1)
                   ·rw [if_pos c36] at H
                    have c36b0 := eq_true c36
                    have c36b1 : decide (x15_2 ≤ ((rd_T63 y173 x67_2).f1)) = true := decide_eq_true c36
                    clear c36
                    by_cases c37 : ((rd_T63 y173 x67_2).f1) ≤ (ys0.size : Int)
                    ·rw [if_pos c37] at H
                     have c37b0 := eq_true c37
                     have c37b1 : decide (((rd_T63 y173 x67_2).f1) ≤ (ys0.size : Int)) = true := decide_eq_true c37
                     clear c37
                     by_cases c38 : x13_2.length < 4398046511104
                     ·rw [if_pos c38] at H
                      have LMc38 := Aside0.mk c38
                      clear c38
                      obtain ⟨y181, hy181⟩ : ∃ y_ : List (S41), y_ = (x13_2 ++ [(⟨(⟨wrap64 (t164 + x14_2), wrap64 (t164 + ((rd_T63 y173 x67_2).f0))⟩ : S39), ys0.extract (x15_2 : Int).toNat (((rd_T63 y173 x67_2).f1) : Int).toNat⟩ : S41)]) := ⟨_, rfl⟩
                      replace H : (diff_Bytes.l0 k2 t164 ys0 y181 (wrap64 (((rd_T63 y173 x67_2).f0) + ((rd_T63 y173 x67_2).f2))) (wrap64 (((rd_T63 y173 x67_2).f1) + ((rd_T63 y173 x67_2).f2))) y173 (y173.length : Int) (wrap64 (x67_2 + 1))) = some (r1, r2, r3) := by first | (rw [hy181]; with_reducible exact H) | (have H2_ := (Option.bind_some _ _).symm.trans H; rw [hy181]; with_reducible exact H2_) | (have H2_ := (Option.bind_some _ _).symm.trans H; with_reducible exact H2_) | with_reducible exact H | (rw [hy181]; exact H) | exact H
                      have Ny181 := Aside0.mk hy181
                      clear hy181
                      have H' := Aside0.mk H
                      clear H
                      have p176 : 0 ≤ (x67_2 : Int) := pxd
                      have q176 : x67_2 < (y173.length : Int) := pxd
                      obtain ⟨ad176, e176, hx176_0, hx176_1, hx176_2⟩ := at_T63 (Kd.R_reads' HO_65.out).2.2 x67_2 p176 q176
                      cases e176
                      replace p176 := eq_true p176
                      replace q176 := eq_true q176
                      try go_wp2_with (first | ((with_reducible refine gate_dst (N := 17) rfl ?_); refine box_event ?hg (N := 17) ?hd (cs := #[.int .i64 0, .int .i64 0, .int .i64 0]) (t := 63) ?hr ?_; (case hd => rfl); (case hg => rfl); (case hr => first | (go_simp; done) | (go_simp; rfl)); intro gb177 hg w39 hbox hb; have BK177 := Aside0.mk (hbox); have GW177 := pxw HB hg; have GE177 := pxw HB hg; replace HO_13 := Aside0.mk (Kd.R_below (pxr HO_13) hb); replace HO_65 := Aside0.mk (Kd.R_below (Kd.R_elderB (pxr HO_65) gb177 (Nat.le_of_eq hg.symm)) hb); replace HB := pxs HB hb; clear hb hbox hg; obtain ⟨hcz40_0, hcz40_1, hcz40_2, hfz40_0, hfz40_1, hfz40_2⟩ := pxf3 BK177))
                      have n0_ : Aside0 (Kd.R k41 41 (((w39.setCell ⟨gb177, 0, none⟩ (.int .i64 ((rd_T63 y173 x67_2).f0))).setCell ⟨gb177, 1, none⟩ (.int .i64 ((rd_T63 y173 x67_2).f1))).setCell ⟨gb177, 2, none⟩ (.int .i64 ((rd_T63 y173 x67_2).f2))) w.heap.size (fun _ => True) u13 x13_2) := ⟨by (with_reducible repeat (first | apply Kd.R_alloc | apply Kd.R_drewN | apply Kd.R_drew)); exact Kd.R_mono (Kd.R_far (p := ⟨gb177, 2, none⟩) (Kd.R_far (p := ⟨gb177, 1, none⟩) (Kd.R_far (p := ⟨gb177, 0, none⟩) (Kd.R_types HO_13.out BK177.out (by decide)) (fun _ hk => hk.2) (.int .i64 ((rd_T63 y173 x67_2).f0))) (fun _ hk => hk.2) (.int .i64 ((rd_T63 y173 x67_2).f1))) (fun _ hk => hk.2) (.int .i64 ((rd_T63 y173 x67_2).f2))) (fun _ hk => trivial)⟩
                      have n1_ : Aside0 (Kd.R k63 63 (((w39.setCell ⟨gb177, 0, none⟩ (.int .i64 ((rd_T63 y173 x67_2).f0))).setCell ⟨gb177, 1, none⟩ (.int .i64 ((rd_T63 y173 x67_2).f1))).setCell ⟨gb177, 2, none⟩ (.int .i64 ((rd_T63 y173 x67_2).f2))) w.heap.size (fun k_ => k_ ≠ gb177) (.slice (some ad176) y173.length co19) y173) := ⟨by (with_reducible repeat (first | apply Kd.R_alloc | apply Kd.R_drewN | apply Kd.R_drew)); exact Kd.R_mono (Kd.R_far (p := ⟨gb177, 2, none⟩) (Kd.R_far (p := ⟨gb177, 1, none⟩) (Kd.R_far (p := ⟨gb177, 0, none⟩) (Kd.R_mono HO_65.out (fun k_ hk => (⟨hk, hk.2⟩ : _ ∧ k_ ≠ gb177))) (fun _ hk => hk.2) (.int .i64 ((rd_T63 y173 x67_2).f0))) (fun _ hk => hk.2) (.int .i64 ((rd_T63 y173 x67_2).f1))) (fun _ hk => hk.2) (.int .i64 ((rd_T63 y173 x67_2).f2))) (fun _ hk => hk.1.2)⟩
                      have n2_ : Aside0 ((((w39.setCell ⟨gb177, 0, none⟩ (.int .i64 ((rd_T63 y173 x67_2).f0))).setCell ⟨gb177, 1, none⟩ (.int .i64 ((rd_T63 y173 x67_2).f1))).setCell ⟨gb177, 2, none⟩ (.int .i64 ((rd_T63 y173 x67_2).f2))).heap[gb177]? = some (.cells #[.int .i64 ((rd_T63 y173 x67_2).f0), .int .i64 ((rd_T63 y173 x67_2).f1), .int .i64 ((rd_T63 y173 x67_2).f2)] 63 (0, 0))) := ⟨pxp BK177⟩
                      have n3_ : Aside0 (Below w.heap.size w (((w39.setCell ⟨gb177, 0, none⟩ (.int .i64 ((rd_T63 y173 x67_2).f0))).setCell ⟨gb177, 1, none⟩ (.int .i64 ((rd_T63 y173 x67_2).f1))).setCell ⟨gb177, 2, none⟩ (.int .i64 ((rd_T63 y173 x67_2).f2)))) := ⟨pxb HB⟩
                      (try clear HO_13)
                      (try clear HO_65)
                      (try clear BK177)
                      (try clear HB)
                      generalize (((w39.setCell ⟨gb177, 0, none⟩ (.int .i64 ((rd_T63 y173 x67_2).f0))).setCell ⟨gb177, 1, none⟩ (.int .i64 ((rd_T63 y173 x67_2).f1))).setCell ⟨gb177, 2, none⟩ (.int .i64 ((rd_T63 y173 x67_2).f2))) = w41 at n0_ n1_ n2_ n3_ ⊢
                      have HO_13 := n0_
                      have HO_65 := n1_
                      have BK177 := n2_
                      have HB := n3_
                      clear n0_ n1_ n2_ n3_
                      have n0_ := Aside0.mk (Kd.R_drew HO_13.out)
                      have n1_ := Aside0.mk (Kd.R_drew HO_65.out)
                      have n2_ := Aside0.mk (blk_drew BK177.out)
                      have n3_ := Aside0.mk (below_drew1 HB.out)
                      clear HO_13
                      clear HO_65
                      clear BK177
                      clear HB
                      have HO_13 := n0_
                      have HO_65 := n1_
                      have BK177 := n2_
                      have HB := n3_
                      clear n0_ n1_ n2_ n3_
                      refine start_ (n := 18) (S := fun w' => w'.cell? ⟨gb177, 0, none⟩ = some (.int .i64 ((rd_T63 y173 x67_2).f0)) ∧ w'.cell? ⟨gb177, 1, none⟩ = some (.int .i64 ((rd_T63 y173 x67_2).f1)) ∧ w'.cell? ⟨gb177, 2, none⟩ = some (.int .i64 ((rd_T63 y173 x67_2).f2))) (ds := []) #[false, false, false, false, false, false, false, false, false, false, false, false, false, false, false, false, false, false] (by kernel_rfl) rfl rfl ⟨(blk_cell BK177.out 0).trans rfl, (blk_cell BK177.out 1).trans rfl, (blk_cell BK177.out 2).trans rfl⟩ (fun hHeld => ?_); refine with_tabW diff_Bytes.tab14 diff_Bytes.bits14 (fun HT_ HW_ => ?_)
                      generalize w41.drew = w42 at HO_13 HO_65 BK177 HB hHeld ⊢
                      refine pS 0 81 HT_ ?_
                      refine pS 1 82 HT_ ?_
                      refine pS 2 83 HT_ ?_
                      refine pS 3 84 HT_ ?_
                      refine pS 4 85 HT_ ?_
                      refine pS 5 86 HT_ ?_
                      refine pS 9 90 HT_ ?_
                      refine pS 10 91 HT_ ?_
                      refine pS 11 92 HT_ ?_
                      refine tS 6 87 HT_ HW_ hHeld ?_
                      refine pS 7 88 HT_ ?_
                      refine pS 8 89 HT_ ?_
                      refine tS 12 93 HT_ HW_ hHeld ?_
                      refine pS 13 94 HT_ ?_
                      refine pS 14 95 HT_ ?_
                      refine oS 15 HT_ (fun K hK => ?_)
                      refine value_ (w1 := ?_) (v := ?_) (by rfl) rfl ?_ ?_
                      rotate_left 2
                      ·go_simp
                       constructor
                       ·rfl
                       ·rfl
                      refine hK.out _ _ ⟨(blk_cell (blk_alloc BK177.out _) 0).trans rfl, (blk_cell (blk_alloc BK177.out _) 1).trans rfl, (blk_cell (blk_alloc BK177.out _) 2).trans rfl⟩ (fun hHeld => ?_)
                      clear hK K
                      refine nS 96 ?_
                      refine oS 16 HT_ (fun K hK => ?_)
                      refine Kd.R_append_step k41 (w0 := w) w.heap.size (by rfl) (.tmp 81) (.tmp 96) 23 41 (.agg #[(.int .i64 0), (.int .i64 0), (.string ⟨#[]⟩)]) 32 rfl Try.underlying23 info41 rfl (by decide) (by omega) u13 x13_2 (⟨(⟨wrap64 (t164 + x14_2), wrap64 (t164 + ((rd_T63 y173 x67_2).f0))⟩ : S39), ys0.extract (x15_2 : Int).toNat (((rd_T63 y173 x67_2).f1) : Int).toNat⟩ : S41) [.int .i64 (wrap64 (t164 + x14_2)), .int .i64 (wrap64 (t164 + ((rd_T63 y173 x67_2).f0))), .string (ys0.extract (x15_2 : Int).toNat (((rd_T63 y173 x67_2).f1) : Int).toNat)] (fun _ => True) (fun _ => False) rfl rfl ?aP (fun _ hk => hk.elim) ?aF ?aO ?aB ?aS ?aL ?_
                      (case aP => exact k41_mkM _ _ _ (⟨(⟨wrap64 (t164 + x14_2), wrap64 (t164 + ((rd_T63 y173 x67_2).f0))⟩ : S39), ys0.extract (x15_2 : Int).toNat (((rd_T63 y173 x67_2).f1) : Int).toNat⟩ : S41))
                      (case aB => exact (pxb HB))
                      (case aF => exact (fun _ _ => trivial))
                      (case aO => exact (pxr HO_13))
                      (case aS => exact (below_size (pxb HB)))
                      (case aL => have := LMc38.out; omega)
                      intro v182 w43 ho hb hg hat
                      rw [← Ny181.out] at ho
                      have n0_ := Aside0.mk (Kd.R_over' (pxr HO_65) (Kd.R_typed (pxr HO_13)) (by decide) hg)
                      have n1_ := Aside0.mk (blk_grown (g := gb177) (o := .cells #[.int .i64 ((rd_T63 y173 x67_2).f0), .int .i64 ((rd_T63 y173 x67_2).f1), .int .i64 ((rd_T63 y173 x67_2).f2)] 63 (0, 0)) (pxq BK177) hg (Kd.R_ne HO_13.out BK177.out (by decide)))
                      have n2_ := Aside0.mk (hb)
                      have n3_ := Aside0.mk (ho)
                      clear HO_65
                      clear BK177
                      clear HB
                      clear HO_13
                      have HO_65 := n0_
                      have BK177 := n1_
                      have HB := n2_
                      have HO183 := n3_
                      clear n0_ n1_ n2_ n3_
                      clear ho hb hg hat
                      refine hK.out _ _ ⟨(blk_cell BK177.out 0).trans rfl, (blk_cell BK177.out 1).trans rfl, (blk_cell BK177.out 2).trans rfl⟩ (fun hHeld => ?_)
                      clear hK K
                      refine nS 97 ?_
                      refine pS 17 13 HT_ ?_
                      refine done_ (done_of HT_.out (by kernel_rfl)) ?_
                      try go_wp2
                      have n0_ := Aside0.mk (Kd.R_drew HO_65.out)
                      have n1_ := Aside0.mk (Kd.R_drew HO183.out)
                      have n2_ := Aside0.mk (blk_drew BK177.out)
                      have n3_ := Aside0.mk (below_drew1 HB.out)
                      clear HO_65
                      clear HO183
                      clear BK177
                      clear HB
                      have HO_65 := n0_
                      have HO183 := n1_
                      have BK177 := n2_
                      have HB := n3_
                      clear n0_ n1_ n2_ n3_
                      refine start_ (n := 12) (S := fun w' => w'.cell? ⟨gb177, 0, none⟩ = some (.int .i64 ((rd_T63 y173 x67_2).f0)) ∧ w'.cell? ⟨gb177, 1, none⟩ = some (.int .i64 ((rd_T63 y173 x67_2).f1)) ∧ w'.cell? ⟨gb177, 2, none⟩ = some (.int .i64 ((rd_T63 y173 x67_2).f2))) (ds := []) #[false, false, false, false, false, false, false, false, false, false, false, false] (by kernel_rfl) rfl rfl ⟨(blk_cell BK177.out 0).trans rfl, (blk_cell BK177.out 1).trans rfl, (blk_cell BK177.out 2).trans rfl⟩ (fun hHeld => ?_); refine with_tabW diff_Bytes.tab15 diff_Bytes.bits15 (fun HT_ HW_ => ?_)
                      generalize w43.drew = w44 at HO_65 HO183 BK177 HB hHeld ⊢
                      refine pS 0 98 HT_ ?_
                      refine pS 2 100 HT_ ?_
                      refine pS 5 103 HT_ ?_
                      refine pS 7 105 HT_ ?_
                      refine tS 1 99 HT_ HW_ hHeld ?_
                      refine tS 3 101 HT_ HW_ hHeld ?_
                      refine pS 4 102 HT_ ?_
                      refine pS 10 14 HT_ ?_
                      refine tS 6 104 HT_ HW_ hHeld ?_
                      refine tS 8 106 HT_ HW_ hHeld ?_
                      refine pS 9 107 HT_ ?_
                      refine pS 11 15 HT_ ?_
                      refine done_ (done_of HT_.out (by kernel_rfl)) ?_
                      try go_wp2
                      go_roundg k2
                      case measure => have := HJ2.out; have := HK2.out; omega
                      case rel => exact ⟨(y181), (wrap64 (((rd_T63 y173 x67_2).f0) + ((rd_T63 y173 x67_2).f2))), (wrap64 (((rd_T63 y173 x67_2).f1) + ((rd_T63 y173 x67_2).f2))), (wrap64 (x67_2 + 1)), (by first | rfl | (simp; done) | (simp [*]; done)), (by first | rfl | (simp; done) | (simp [*]; done)), (by first | rfl | (simp; done) | (simp [*]; done)), H', ⟨by have := HJ2.out; have := HK2.out; omega⟩, ⟨pxr HO183⟩, ⟨by (with_reducible repeat (first | apply Kd.R_alloc | apply Kd.R_drewN | apply Kd.R_drew)); exact Kd.R_mono HO_65.out (fun _ hk => trivial)⟩, ⟨pxb HB⟩⟩
                     ·rw [if_neg c38] at H
                      exact absurd H (by simp)
                    ·rw [if_neg c37] at H
                     exact absurd H (by simp)
                   ·rw [if_neg c36] at H
                    exact absurd H (by simp)
                  ·rw [if_neg c35] at H
                   exact absurd H (by simp)
                 ·rw [if_neg c34] at H
                  have c34b0 : decide (x15_2 < ((rd_T63 y173 x67_2).f1)) = false := decide_eq_false c34
                  clear c34
                  have H' := Aside0.mk H
                  clear H
                  have p176 : 0 ≤ (x67_2 : Int) := pxd
                  have q176 : x67_2 < (y173.length : Int) := pxd
                  obtain ⟨ad176, e176, hx176_0, hx176_1, hx176_2⟩ := at_T63 (Kd.R_reads' HO_65.out).2.2 x67_2 p176 q176
                  cases e176
                  replace p176 := eq_true p176
                  replace q176 := eq_true q176
                  try go_wp2_with (first | ((with_reducible refine gate_dst (N := 17) rfl ?_); refine box_event ?hg (N := 17) ?hd (cs := #[.int .i64 0, .int .i64 0, .int .i64 0]) (t := 63) ?hr ?_; (case hd => rfl); (case hg => rfl); (case hr => first | (go_simp; done) | (go_simp; rfl)); intro gb177 hg w45 hbox hb; have BK177 := Aside0.mk (hbox); have GW177 := pxw HB hg; have GE177 := pxw HB hg; replace HO_13 := Aside0.mk (Kd.R_below (pxr HO_13) hb); replace HO_65 := Aside0.mk (Kd.R_below (Kd.R_elderB (pxr HO_65) gb177 (Nat.le_of_eq hg.symm)) hb); replace HB := pxs HB hb; clear hb hbox hg; obtain ⟨hcz46_0, hcz46_1, hcz46_2, hfz46_0, hfz46_1, hfz46_2⟩ := pxf3 BK177))
                  have n0_ : Aside0 (Kd.R k41 41 (((w45.setCell ⟨gb177, 0, none⟩ (.int .i64 ((rd_T63 y173 x67_2).f0))).setCell ⟨gb177, 1, none⟩ (.int .i64 ((rd_T63 y173 x67_2).f1))).setCell ⟨gb177, 2, none⟩ (.int .i64 ((rd_T63 y173 x67_2).f2))) w.heap.size (fun _ => True) u13 x13_2) := ⟨by (with_reducible repeat (first | apply Kd.R_alloc | apply Kd.R_drewN | apply Kd.R_drew)); exact Kd.R_mono (Kd.R_far (p := ⟨gb177, 2, none⟩) (Kd.R_far (p := ⟨gb177, 1, none⟩) (Kd.R_far (p := ⟨gb177, 0, none⟩) (Kd.R_types HO_13.out BK177.out (by decide)) (fun _ hk => hk.2) (.int .i64 ((rd_T63 y173 x67_2).f0))) (fun _ hk => hk.2) (.int .i64 ((rd_T63 y173 x67_2).f1))) (fun _ hk => hk.2) (.int .i64 ((rd_T63 y173 x67_2).f2))) (fun _ hk => trivial)⟩
                  have n1_ : Aside0 (Kd.R k63 63 (((w45.setCell ⟨gb177, 0, none⟩ (.int .i64 ((rd_T63 y173 x67_2).f0))).setCell ⟨gb177, 1, none⟩ (.int .i64 ((rd_T63 y173 x67_2).f1))).setCell ⟨gb177, 2, none⟩ (.int .i64 ((rd_T63 y173 x67_2).f2))) w.heap.size (fun k_ => k_ ≠ gb177) (.slice (some ad176) y173.length co19) y173) := ⟨by (with_reducible repeat (first | apply Kd.R_alloc | apply Kd.R_drewN | apply Kd.R_drew)); exact Kd.R_mono (Kd.R_far (p := ⟨gb177, 2, none⟩) (Kd.R_far (p := ⟨gb177, 1, none⟩) (Kd.R_far (p := ⟨gb177, 0, none⟩) (Kd.R_mono HO_65.out (fun k_ hk => (⟨hk, hk.2⟩ : _ ∧ k_ ≠ gb177))) (fun _ hk => hk.2) (.int .i64 ((rd_T63 y173 x67_2).f0))) (fun _ hk => hk.2) (.int .i64 ((rd_T63 y173 x67_2).f1))) (fun _ hk => hk.2) (.int .i64 ((rd_T63 y173 x67_2).f2))) (fun _ hk => hk.1.2)⟩
                  have n2_ : Aside0 ((((w45.setCell ⟨gb177, 0, none⟩ (.int .i64 ((rd_T63 y173 x67_2).f0))).setCell ⟨gb177, 1, none⟩ (.int .i64 ((rd_T63 y173 x67_2).f1))).setCell ⟨gb177, 2, none⟩ (.int .i64 ((rd_T63 y173 x67_2).f2))).heap[gb177]? = some (.cells #[.int .i64 ((rd_T63 y173 x67_2).f0), .int .i64 ((rd_T63 y173 x67_2).f1), .int .i64 ((rd_T63 y173 x67_2).f2)] 63 (0, 0))) := ⟨pxp BK177⟩
                  have n3_ : Aside0 (Below w.heap.size w (((w45.setCell ⟨gb177, 0, none⟩ (.int .i64 ((rd_T63 y173 x67_2).f0))).setCell ⟨gb177, 1, none⟩ (.int .i64 ((rd_T63 y173 x67_2).f1))).setCell ⟨gb177, 2, none⟩ (.int .i64 ((rd_T63 y173 x67_2).f2)))) := ⟨pxb HB⟩
                  (try clear HO_13)
                  (try clear HO_65)
                  (try clear BK177)
                  (try clear HB)
                  generalize (((w45.setCell ⟨gb177, 0, none⟩ (.int .i64 ((rd_T63 y173 x67_2).f0))).setCell ⟨gb177, 1, none⟩ (.int .i64 ((rd_T63 y173 x67_2).f1))).setCell ⟨gb177, 2, none⟩ (.int .i64 ((rd_T63 y173 x67_2).f2))) = w47 at n0_ n1_ n2_ n3_ ⊢
                  have HO_13 := n0_
                  have HO_65 := n1_
                  have BK177 := n2_
                  have HB := n3_
                  clear n0_ n1_ n2_ n3_
                  have n0_ := Aside0.mk (Kd.R_drew HO_13.out)
                  have n1_ := Aside0.mk (Kd.R_drew HO_65.out)
                  have n2_ := Aside0.mk (blk_drew BK177.out)
                  have n3_ := Aside0.mk (below_drew1 HB.out)
                  clear HO_13
                  clear HO_65
                  clear BK177
                  clear HB
                  have HO_13 := n0_
                  have HO_65 := n1_
                  have BK177 := n2_
                  have HB := n3_
                  clear n0_ n1_ n2_ n3_
                  refine start_ (n := 12) (S := fun w' => w'.cell? ⟨gb177, 0, none⟩ = some (.int .i64 ((rd_T63 y173 x67_2).f0)) ∧ w'.cell? ⟨gb177, 1, none⟩ = some (.int .i64 ((rd_T63 y173 x67_2).f1)) ∧ w'.cell? ⟨gb177, 2, none⟩ = some (.int .i64 ((rd_T63 y173 x67_2).f2))) (ds := []) #[false, false, false, false, false, false, false, false, false, false, false, false] (by kernel_rfl) rfl rfl ⟨(blk_cell BK177.out 0).trans rfl, (blk_cell BK177.out 1).trans rfl, (blk_cell BK177.out 2).trans rfl⟩ (fun hHeld => ?_); refine with_tabW diff_Bytes.tab15 diff_Bytes.bits15 (fun HT_ HW_ => ?_)
                  generalize w47.drew = w48 at HO_13 HO_65 BK177 HB hHeld ⊢
                  refine pS 0 98 HT_ ?_
                  refine pS 2 100 HT_ ?_
                  refine pS 5 103 HT_ ?_
                  refine pS 7 105 HT_ ?_
                  refine tS 1 99 HT_ HW_ hHeld ?_
                  refine tS 3 101 HT_ HW_ hHeld ?_
                  refine pS 4 102 HT_ ?_
                  refine pS 10 14 HT_ ?_
                  refine tS 6 104 HT_ HW_ hHeld ?_
                  refine tS 8 106 HT_ HW_ hHeld ?_
                  refine pS 9 107 HT_ ?_
                  refine pS 11 15 HT_ ?_
                  refine done_ (done_of HT_.out (by kernel_rfl)) ?_
                  try go_wp2
                  go_roundg k2
                  case measure => have := HJ2.out; have := HK2.out; omega
                  case rel => exact ⟨(x13_2), (wrap64 (((rd_T63 y173 x67_2).f0) + ((rd_T63 y173 x67_2).f2))), (wrap64 (((rd_T63 y173 x67_2).f1) + ((rd_T63 y173 x67_2).f2))), (wrap64 (x67_2 + 1)), (by first | rfl | (simp; done) | (simp [*]; done)), (by first | rfl | (simp; done) | (simp [*]; done)), (by first | rfl | (simp; done) | (simp [*]; done)), H', ⟨by have := HJ2.out; have := HK2.out; omega⟩, ⟨pxr HO_13⟩, ⟨by (with_reducible repeat (first | apply Kd.R_alloc | apply Kd.R_drewN | apply Kd.R_drew)); exact Kd.R_mono HO_65.out (fun _ hk => trivial)⟩, ⟨pxb HB⟩⟩
               ·rw [if_neg c22] at H
                exact absurd H (by simp)
              ·rw [if_neg c21] at H
               exact absurd H (by simp)
             ·rw [if_neg c20] at H
              have c20b0 : decide (x67_2 < (y173.length : Int)) = false := decide_eq_false c20
              clear c20
              simp only [Option.some.injEq, Prod.mk.injEq] at H
              obtain ⟨rfl, rfl, rfl⟩ := H
              go_wp2
              go_ret3
              exact ⟨_, by first | rfl | (simp [errW_none, errW_some] <;> rfl) | (simp [*, errW_none, errW_some] <;> rfl), pxr HO_13, pxb HB⟩
          ·rw [if_neg c15] at H
           exact absurd H (by simp)
         ·replace c14 := Bool.eq_false_iff.mpr c14
          subst c14
          have H1 : ((diff_one.f t164 (a0.extract (t164 : Int).toNat ((wrap64 ((a0.size : Int) - t165)) : Int).toNat) (a1.extract (t164 : Int).toNat ((wrap64 ((a1.size : Int) - t165)) : Int).toNat)).bind fun t170 => (some (t170, false, 0))) = some (r1, r2, r3) := by rw [if_neg (show ¬ (false = true) by decide)] at H; exact H
          clear H
          have H := H1
          clear H1
          replace H := Option.bind_eq_some_iff.mp H
          obtain ⟨t170, A490, H⟩ := H
          replace H : (some (t170, false, 0)) = some (r1, r2, r3) := H
          have A49 := Aside0.mk A490
          clear A490
          simp only [Option.some.injEq, Prod.mk.injEq] at H
          obtain ⟨rfl, rfl, rfl⟩ := H
          try go_wp2_with (first | ((with_reducible refine gate_callee (f := 25) rfl ?_); refine goesL_ (some 29) rfl rfl Try.func25 (by kernel_rfl) rfl #[.string a0, .string a1] rfl (by (try simp only [List.map_toArray, List.map_cons, List.map_nil]); first | done | rfl | (simp only [List.length_drop, List.length_take]; rfl)) ?_; (with_reducible refine (diff_ends.calls kj2 a0 a1 t164 t165 _ A6.out).mono ?_); rintro e w' ⟨rfl, ⟨nd, rfl⟩⟩; refine ⟨_, rfl, ?_⟩))
          (try (rw [drewN_self wc]; generalize hq_ : World.drewN wc _ = wc; have n0_ : Aside0 (Below w.heap.size w wc) := ⟨by rw [← hq_]; exact (pxb HB)⟩; clear HB hq_; have HB := n0_; clear n0_))
          have n0_ := Aside0.mk (below_drew1 HB.out)
          clear HB
          have HB := n0_
          clear n0_
          refine start_ (n := 16) (S := fun w' => True) (ds := []) #[false, false, false, false, false, false, false, false, false, false, false, false, false, false, false, false] (by kernel_rfl) rfl rfl trivial (fun hHeld => ?_); refine with_tabW diff_Bytes.tab4 diff_Bytes.bits4 (fun HT_ HW_ => ?_)
          generalize wc.drew = w50 at HB hHeld ⊢
          refine pS 0 32 HT_ ?_
          refine pS 1 33 HT_ ?_
          refine pS 2 34 HT_ ?_
          refine pS 3 35 HT_ ?_
          refine pS 4 36 HT_ ?_
          refine pS 5 37 HT_ ?_
          refine pS 6 38 HT_ ?_
          refine pS 7 39 HT_ ?_
          refine pS 8 40 HT_ ?_
          refine pS 9 41 HT_ ?_
          refine pS 10 42 HT_ ?_
          refine pS 11 43 HT_ ?_
          refine pS 12 44 HT_ ?_
          refine pS 13 45 HT_ ?_
          refine pS 14 9 HT_ ?_
          refine pS 15 10 HT_ ?_
          refine done_ (done_of HT_.out (by kernel_rfl)) ?_
          try go_wp2_with (first | ((with_reducible refine gate_callee (f := 26) rfl ?_); refine goesL_ (some 49) rfl rfl Try.func26 (by kernel_rfl) rfl #[.string (a0.extract (t164 : Int).toNat ((wrap64 ((a0.size : Int) - t165)) : Int).toNat), .string (a1.extract (t164 : Int).toNat ((wrap64 ((a1.size : Int) - t165)) : Int).toNat)] rfl (by (try simp only [List.map_toArray, List.map_cons, List.map_nil]); first | done | rfl | (simp only [List.length_drop, List.length_take]; rfl)) ?_; (with_reducible refine (diff_common.calls kj2 (a0.extract (t164 : Int).toNat ((wrap64 ((a0.size : Int) - t165)) : Int).toNat) (a1.extract (t164 : Int).toNat ((wrap64 ((a1.size : Int) - t165)) : Int).toNat) t166 false _ A13.out).mono ?_); rintro e w51 ⟨v168, rfl, ho0, hb⟩; refine ⟨_, rfl, ?_⟩; have HO169 := Aside0.mk (Kd.R_lower ho0 (below_size (pxb HB))); replace HB := pxs HB hb; (try clear hb); (try clear hb2); (try clear hk); (try clear hi); (try clear ho0)) | ((with_reducible refine gate_callee (f := 27) rfl ?_); refine goesL_ (some 57) rfl rfl Try.func27 (by kernel_rfl) rfl #[.int .i64 t164, .string (a0.extract (t164 : Int).toNat ((wrap64 ((a0.size : Int) - t165)) : Int).toNat), .string (a1.extract (t164 : Int).toNat ((wrap64 ((a1.size : Int) - t165)) : Int).toNat)] rfl (by (try simp only [List.map_toArray, List.map_cons, List.map_nil]); first | done | rfl | (simp only [List.length_drop, List.length_take]; rfl)) ?_; (with_reducible refine (diff_one.calls t164 (a0.extract (t164 : Int).toNat ((wrap64 ((a0.size : Int) - t165)) : Int).toNat) (a1.extract (t164 : Int).toNat ((wrap64 ((a1.size : Int) - t165)) : Int).toNat) t170 _ A49.out).mono ?_); rintro e w52 ⟨v171, rfl, ho0, hb⟩; refine ⟨_, rfl, ?_⟩; have HO172 := Aside0.mk (Kd.R_lower ho0 (below_size (pxb HB))); replace HO169 := Aside0.mk (Kd.R_below (pxr HO169) hb); replace HB := pxs HB hb; (try clear hb); (try clear hb2); (try clear hk); (try clear hi); (try clear ho0)))
          go_ret3
          exact ⟨_, by first | rfl | (simp [errW_none, errW_some] <;> rfl) | (simp [*, errW_none, errW_some] <;> rfl), pxr HO172, pxb HB⟩
        ·rw [if_neg c12] at H
         exact absurd H (by simp)
       ·rw [if_neg c11] at H
        exact absurd H (by simp)
      ·rw [if_neg c9] at H
       exact absurd H (by simp)
     ·rw [if_neg c8] at H
      exact absurd H (by simp)
    ·rw [if_neg c7] at H
     exact absurd H (by simp)

end Go.Proofs.Ytoljmjhmieaggaa.X
