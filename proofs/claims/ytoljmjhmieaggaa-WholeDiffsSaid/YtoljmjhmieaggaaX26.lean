/- What the program's functions answer, as Lean functions, and that each call does just that; no condition. Written by a program (px.py) out of the translation. -/
import Derived.Test.YtoljmjhmieaggaaM2
import Derived.Test.YtoljmjhmieaggaaM5
import Derived.Test.YtoljmjhmieaggaaX41
import Derived.Test.YtoljmjhmieaggaaShort2
namespace Go.Proofs.Ytoljmjhmieaggaa.X
open Go.RowKit Go.Proofs.YtoljmjhmieaggaaW.PrintWords Go.Proofs.YtoljmjhmieaggaaW.PrintLast Go.Proofs.YtoljmjhmieaggaaW.PrintMore
attribute [local go_sem] max2_int min2_int max_two min_two max_three min_three max_four min_four   -- for this text's walks alone
set_option linter.unusedVariables false
set_option linter.unusedSimpArgs false

/-! ### diff_common: function 26 -/
mutual
def diff_common.l0 : Nat → ByteArray → ByteArray → List (List Int) → Int → Option ((List (S63)) × Bool)
 | 0, _, _, _, _ => none
 | k + 1, x0, x1, x6, x7 => if x7 ≤ 512 then (if 0 ≤ (wrap64 ((wrap64 (2 * x7)) + 3)) then (if (wrap64 ((wrap64 (2 * x7)) + 3) : Int).toNat ≤ 35184372088832 then (diff_common.l1 k x0 x1 x6 x7 (List.replicate (wrap64 ((wrap64 (2 * x7)) + 3) : Int).toNat 0) (wrap64 (-x7))) else (none)) else (none)) else (some (([] : List (S63)), false))
def diff_common.l1 : Nat → ByteArray → ByteArray → List (List Int) → Int → List Int → Int → Option ((List (S63)) × Bool)
 | 0, _, _, _, _, _, _ => none
 | k + 1, x0, x1, x6, x7, x8, x9 => if x9 ≤ x7 then (if x7 > 0 then (if 0 ≤ (wrap64 (x7 - 1)) then (if (wrap64 (x7 - 1)) < (x6.length : Int) then ((diff_step.f k (rd_L1 x6 (wrap64 (x7 - 1))) x9 x7).bind fun t125 => (diff_common.j2 k x0 x1 x6 x7 x8 x9 t125)) else (none)) else (none)) else (diff_common.j2 k x0 x1 x6 x7 x8 x9 0)) else (if x6.length < 5864062014805 then (diff_common.l0 k x0 x1 (x6 ++ [x8]) (wrap64 (x7 + 1))) else (none))
def diff_common.j2 : Nat → ByteArray → ByteArray → List (List Int) → Int → List Int → Int → Int → Option ((List (S63)) × Bool)
 | 0, _, _, _, _, _, _, _ => none
 | k + 1, x0, x1, x6, x7, x8, x9, x10 => diff_common.l2 k x0 x1 x6 x7 x8 x9 x10 (wrap64 (x10 - x9))
def diff_common.l2 : Nat → ByteArray → ByteArray → List (List Int) → Int → List Int → Int → Int → Int → Option ((List (S63)) × Bool)
 | 0, _, _, _, _, _, _, _, _ => none
 | k + 1, x0, x1, x6, x7, x8, x9, x10, x11 => if x10 ≥ 0 then (if x11 ≥ 0 then (if x10 < (x0.size : Int) then (if x11 < (x1.size : Int) then (if 0 ≤ x10 then (if 0 ≤ x11 then (if (bt x0 x10) = (bt x1 x11) then (diff_common.l2 k x0 x1 x6 x7 x8 x9 (wrap64 (x10 + 1)) (wrap64 (x11 + 1))) else (if 0 ≤ (wrap64 ((wrap64 (x9 + x7)) + 1)) then (if (wrap64 ((wrap64 (x9 + x7)) + 1)) < (x8.length : Int) then ((some (x8.set ((wrap64 ((wrap64 (x9 + x7)) + 1)) : Int).toNat x10 : List Int)).bind fun y126 => (if x10 ≥ (x0.size : Int) then (if x11 ≥ (x1.size : Int) then (if x6.length < 5864062014805 then ((diff_back.f k x0 x1 (x6 ++ [y126])).bind fun t130 => (some (t130, true))) else (none)) else (diff_common.l1 k x0 x1 x6 x7 y126 (wrap64 (x9 + 2)))) else (diff_common.l1 k x0 x1 x6 x7 y126 (wrap64 (x9 + 2))))) else (none)) else (none))) else (none)) else (none)) else (if 0 ≤ (wrap64 ((wrap64 (x9 + x7)) + 1)) then (if (wrap64 ((wrap64 (x9 + x7)) + 1)) < (x8.length : Int) then ((some (x8.set ((wrap64 ((wrap64 (x9 + x7)) + 1)) : Int).toNat x10 : List Int)).bind fun y133 => (if x10 ≥ (x0.size : Int) then (if x11 ≥ (x1.size : Int) then (if x6.length < 5864062014805 then ((diff_back.f k x0 x1 (x6 ++ [y133])).bind fun t137 => (some (t137, true))) else (none)) else (diff_common.l1 k x0 x1 x6 x7 y133 (wrap64 (x9 + 2)))) else (diff_common.l1 k x0 x1 x6 x7 y133 (wrap64 (x9 + 2))))) else (none)) else (none))) else (if 0 ≤ (wrap64 ((wrap64 (x9 + x7)) + 1)) then (if (wrap64 ((wrap64 (x9 + x7)) + 1)) < (x8.length : Int) then ((some (x8.set ((wrap64 ((wrap64 (x9 + x7)) + 1)) : Int).toNat x10 : List Int)).bind fun y140 => (if x10 ≥ (x0.size : Int) then (if x11 ≥ (x1.size : Int) then (if x6.length < 5864062014805 then ((diff_back.f k x0 x1 (x6 ++ [y140])).bind fun t144 => (some (t144, true))) else (none)) else (diff_common.l1 k x0 x1 x6 x7 y140 (wrap64 (x9 + 2)))) else (diff_common.l1 k x0 x1 x6 x7 y140 (wrap64 (x9 + 2))))) else (none)) else (none))) else (if 0 ≤ (wrap64 ((wrap64 (x9 + x7)) + 1)) then (if (wrap64 ((wrap64 (x9 + x7)) + 1)) < (x8.length : Int) then ((some (x8.set ((wrap64 ((wrap64 (x9 + x7)) + 1)) : Int).toNat x10 : List Int)).bind fun y147 => (if x10 ≥ (x0.size : Int) then (if x11 ≥ (x1.size : Int) then (if x6.length < 5864062014805 then ((diff_back.f k x0 x1 (x6 ++ [y147])).bind fun t151 => (some (t151, true))) else (none)) else (diff_common.l1 k x0 x1 x6 x7 y147 (wrap64 (x9 + 2)))) else (diff_common.l1 k x0 x1 x6 x7 y147 (wrap64 (x9 + 2))))) else (none)) else (none))) else (if 0 ≤ (wrap64 ((wrap64 (x9 + x7)) + 1)) then (if (wrap64 ((wrap64 (x9 + x7)) + 1)) < (x8.length : Int) then ((some (x8.set ((wrap64 ((wrap64 (x9 + x7)) + 1)) : Int).toNat x10 : List Int)).bind fun y154 => (if x10 ≥ (x0.size : Int) then (if x11 ≥ (x1.size : Int) then (if x6.length < 5864062014805 then ((diff_back.f k x0 x1 (x6 ++ [y154])).bind fun t158 => (some (t158, true))) else (none)) else (diff_common.l1 k x0 x1 x6 x7 y154 (wrap64 (x9 + 2)))) else (diff_common.l1 k x0 x1 x6 x7 y154 (wrap64 (x9 + 2))))) else (none)) else (none))
end
def diff_common.f (k : Nat) (a0 : ByteArray) (a1 : ByteArray) : Option ((List (S63)) × Bool) := diff_common.l0 k a0 a1 ([] : List (List Int)) 0
theorem diff_common.mono_l : ∀ k, (∀ y0 y1 y2 y3, LeO (diff_common.l0 k y0 y1 y2 y3) (diff_common.l0 (k + 1) y0 y1 y2 y3)) ∧ (∀ y0 y1 y2 y3 y4 y5, LeO (diff_common.l1 k y0 y1 y2 y3 y4 y5) (diff_common.l1 (k + 1) y0 y1 y2 y3 y4 y5)) ∧ (∀ y0 y1 y2 y3 y4 y5 y6, LeO (diff_common.j2 k y0 y1 y2 y3 y4 y5 y6) (diff_common.j2 (k + 1) y0 y1 y2 y3 y4 y5 y6)) ∧ (∀ y0 y1 y2 y3 y4 y5 y6 y7, LeO (diff_common.l2 k y0 y1 y2 y3 y4 y5 y6 y7) (diff_common.l2 (k + 1) y0 y1 y2 y3 y4 y5 y6 y7))
 | 0 => ⟨fun _ _ _ _ r h => by simp [diff_common.l0] at h, fun _ _ _ _ _ _ r h => by simp [diff_common.l1] at h, fun _ _ _ _ _ _ _ r h => by simp [diff_common.j2] at h, fun _ _ _ _ _ _ _ _ r h => by simp [diff_common.l2] at h⟩
 | k + 1 => by
  obtain ⟨ih0, ih1, ih2, ih3⟩ := diff_common.mono_l k
  refine ⟨?_, ?_, ?_, ?_⟩
  ·intro y0 y1 y2 y3
   unfold diff_common.l0
   repeat' first
   | (with_reducible exact ih0 _ _ _ _)
   | (with_reducible exact ih1 _ _ _ _ _ _)
   | (with_reducible exact ih2 _ _ _ _ _ _ _)
   | (with_reducible exact ih3 _ _ _ _ _ _ _ _)
   | (with_reducible exact diff_back.mono _ _ _ _)
   | (with_reducible exact diff_step.mono _ _ _ _)
   | (with_reducible exact LeO.refl _)
   | (with_reducible exact LeO.none _)
   | (with_reducible refine LeO.ite ?_ ?_)
   | (with_reducible refine LeO.bind ?_ (fun _ => ?_))
   | exact ih0 _ _ _ _
   | exact ih1 _ _ _ _ _ _
   | exact ih2 _ _ _ _ _ _ _
   | exact ih3 _ _ _ _ _ _ _ _
   | exact diff_back.mono _ _ _ _
   | exact diff_step.mono _ _ _ _
   | exact LeO.none _
   | refine LeO.ite ?_ ?_
   | refine LeO.bind ?_ (fun _ => ?_)
  ·intro y0 y1 y2 y3 y4 y5
   unfold diff_common.l1
   repeat' first
   | (with_reducible exact ih0 _ _ _ _)
   | (with_reducible exact ih1 _ _ _ _ _ _)
   | (with_reducible exact ih2 _ _ _ _ _ _ _)
   | (with_reducible exact ih3 _ _ _ _ _ _ _ _)
   | (with_reducible exact diff_back.mono _ _ _ _)
   | (with_reducible exact diff_step.mono _ _ _ _)
   | (with_reducible exact LeO.refl _)
   | (with_reducible exact LeO.none _)
   | (with_reducible refine LeO.ite ?_ ?_)
   | (with_reducible refine LeO.bind ?_ (fun _ => ?_))
   | exact ih0 _ _ _ _
   | exact ih1 _ _ _ _ _ _
   | exact ih2 _ _ _ _ _ _ _
   | exact ih3 _ _ _ _ _ _ _ _
   | exact diff_back.mono _ _ _ _
   | exact diff_step.mono _ _ _ _
   | exact LeO.none _
   | refine LeO.ite ?_ ?_
   | refine LeO.bind ?_ (fun _ => ?_)
  ·intro y0 y1 y2 y3 y4 y5 y6
   unfold diff_common.j2
   repeat' first
   | (with_reducible exact ih0 _ _ _ _)
   | (with_reducible exact ih1 _ _ _ _ _ _)
   | (with_reducible exact ih2 _ _ _ _ _ _ _)
   | (with_reducible exact ih3 _ _ _ _ _ _ _ _)
   | (with_reducible exact diff_back.mono _ _ _ _)
   | (with_reducible exact diff_step.mono _ _ _ _)
   | (with_reducible exact LeO.refl _)
   | (with_reducible exact LeO.none _)
   | (with_reducible refine LeO.ite ?_ ?_)
   | (with_reducible refine LeO.bind ?_ (fun _ => ?_))
   | exact ih0 _ _ _ _
   | exact ih1 _ _ _ _ _ _
   | exact ih2 _ _ _ _ _ _ _
   | exact ih3 _ _ _ _ _ _ _ _
   | exact diff_back.mono _ _ _ _
   | exact diff_step.mono _ _ _ _
   | exact LeO.none _
   | refine LeO.ite ?_ ?_
   | refine LeO.bind ?_ (fun _ => ?_)
  ·intro y0 y1 y2 y3 y4 y5 y6 y7
   unfold diff_common.l2
   repeat' first
   | (with_reducible exact ih0 _ _ _ _)
   | (with_reducible exact ih1 _ _ _ _ _ _)
   | (with_reducible exact ih2 _ _ _ _ _ _ _)
   | (with_reducible exact ih3 _ _ _ _ _ _ _ _)
   | (with_reducible exact diff_back.mono _ _ _ _)
   | (with_reducible exact diff_step.mono _ _ _ _)
   | (with_reducible exact LeO.refl _)
   | (with_reducible exact LeO.none _)
   | (with_reducible refine LeO.ite ?_ ?_)
   | (with_reducible refine LeO.bind ?_ (fun _ => ?_))
   | exact ih0 _ _ _ _
   | exact ih1 _ _ _ _ _ _
   | exact ih2 _ _ _ _ _ _ _
   | exact ih3 _ _ _ _ _ _ _ _
   | exact diff_back.mono _ _ _ _
   | exact diff_step.mono _ _ _ _
   | exact LeO.none _
   | refine LeO.ite ?_ ?_
   | refine LeO.bind ?_ (fun _ => ?_)
theorem diff_common.mono : ∀ a0 a1 k, LeO (diff_common.f k a0 a1) (diff_common.f (k + 1) a0 a1) := by
 intro a0 a1 k
 obtain ⟨ih0, ih1, ih2, ih3⟩ := diff_common.mono_l k
 unfold diff_common.f
 repeat' first
   | (with_reducible exact ih0 _ _ _ _)
   | (with_reducible exact ih1 _ _ _ _ _ _)
   | (with_reducible exact ih2 _ _ _ _ _ _ _)
   | (with_reducible exact ih3 _ _ _ _ _ _ _ _)
   | (with_reducible exact diff_back.mono _ _ _ _)
   | (with_reducible exact diff_step.mono _ _ _ _)
   | (with_reducible exact LeO.refl _)
   | (with_reducible exact LeO.none _)
   | (with_reducible refine LeO.ite ?_ ?_)
   | (with_reducible refine LeO.bind ?_ (fun _ => ?_))
   | exact ih0 _ _ _ _
   | exact ih1 _ _ _ _ _ _
   | exact ih2 _ _ _ _ _ _ _
   | exact ih3 _ _ _ _ _ _ _ _
   | exact diff_back.mono _ _ _ _
   | exact diff_step.mono _ _ _ _
   | exact LeO.none _
   | refine LeO.ite ?_ ?_
   | refine LeO.bind ?_ (fun _ => ?_)
set_option maxHeartbeats 8000000 in
set_option maxRecDepth 100000 in
theorem diff_common.calls (k : Nat) (a0 : ByteArray) (a1 : ByteArray) (r1 : List (S63)) (r2 : Bool) (w : World) (h : diff_common.f k a0 a1 = some (r1, r2)) :
  Calls Try.prog 26 #[.string a0, .string a1] w fun e w' => ∃ v0_ : Value, e = .returned (.tuple #[v0_, .bool r2]) ∧ Kd.R k63 63 w' w.heap.size (fun _ => True) v0_ r1 ∧ Below w.heap.size w w' := by
 have HB := Aside0.mk (Below.refl w.heap.size w)
 have H : (diff_common.l0 k a0 a1 ([] : List (List Int)) 0) = some (r1, r2) := h
 clear h
 have H' := Aside0.mk H
 clear H
 go_enter Try.func26, Try.ntmps26
 go_wp2
 repeat (go_quiet (fail); try go_wp2)
 go_loopg [6, 7] k (fun kq v6 v7 w' => ∃ (x6_1 : List (List Int)) (x7_1 : Int), v7 = .int .i64 x7_1 ∧ Aside0 (diff_common.l0 kq a0 a1 x6_1 x7_1 = some (r1, r2)) ∧ Aside0 (kq ≤ k) ∧ Aside0 (Kd.S (Kd.slice 3 (Kd.int .i64)) 84 w' w.heap.size (fun _ => True) v6 x6_1) ∧ Aside0 (Below w.heap.size w w'))
 case atStart => exact ⟨(([] : List (List Int))), (0), (by first | rfl | (simp; done) | (simp [*]; done)), H', ⟨Nat.le_refl _⟩, ⟨by first | exact Kd.S_nil _ _ _ _ _ | exact Kd.N_nil _ _ _ _ _ | exact Kd.V_nil _ _ _ _ _ | exact Kd.Q_nil _ _ _ _ _ | exact Kd.R_nil _ _ _ _ _⟩, ⟨pxb HB⟩⟩
 case round =>
  clear H'
  (try clear c2); (try clear p2)
  obtain ⟨x6_1, x7_1, rfl, HA, HK1, HO_6, HB⟩ := hrel
  cases gk with
  | zero => exact absurd HA.out (by simp [diff_common.l0])
  | succ k1 =>
   have H := HA.out
   clear HA
   simp only [diff_common.l0] at H
   by_cases c3 : x7_1 ≤ 512
   ·rw [if_pos c3] at H
    have c3b0 : decide (x7_1 ≤ 512) = true := decide_eq_true c3
    clear c3
    obtain ⟨ji4, hji4⟩ : ∃ j_ : Int, (wrap64 ((wrap64 (2 * x7_1)) + 3)) = j_ := ⟨_, rfl⟩
    replace H : (if 0 ≤ (ji4) then (if (ji4 : Int).toNat ≤ 35184372088832 then (diff_common.l1 k1 a0 a1 x6_1 x7_1 (List.replicate (ji4 : Int).toNat 0) (wrap64 (-x7_1))) else (none)) else (none)) = some (r1, r2) := by first | (rw [hji4] at H; exact H) | (simp only [hji4] at H ⊢; exact H)
    have hji4w : (IntKind.i64.wrap ((wrap64 (2 * x7_1)) + 3)) = ji4 := (i64_w _).trans hji4
    by_cases c5 : 0 ≤ (ji4)
    ·rw [if_pos c5] at H
     have c5b0 := eq_true c5
     have c5b1 : decide (0 ≤ (ji4)) = true := decide_eq_true c5
     clear c5
     by_cases c6 : (ji4 : Int).toNat ≤ 35184372088832
     ·rw [if_pos c6] at H
      have c6b0 := eq_true c6
      have c6b1 : decide ((ji4 : Int).toNat ≤ 35184372088832) = true := decide_eq_true c6
      clear c6
      obtain ⟨y118, hy118⟩ : ∃ y_ : List Int, y_ = (List.replicate (ji4 : Int).toNat 0) := ⟨_, rfl⟩
      replace H : (diff_common.l1 k1 a0 a1 x6_1 x7_1 y118 (wrap64 (-x7_1))) = some (r1, r2) := by first | (rw [hy118]; with_reducible exact H) | (have H2_ := (Option.bind_some _ _).symm.trans H; rw [hy118]; with_reducible exact H2_) | (have H2_ := (Option.bind_some _ _).symm.trans H; with_reducible exact H2_) | with_reducible exact H | (rw [hy118]; exact H) | exact H
      have Ny118 := Aside0.mk hy118
      clear hy118
      have H' := Aside0.mk H
      clear H
      go_wp2_with (first | ((with_reducible refine gate_dst (N := 19) rfl ?_); refine Kd.R_make (Kd.int .i64) _ 3 rfl (N := 19) rfl 84 _ _ rfl ji4 rfl rfl Try.underlying84 (.int .i64 0) 8 info3 rfl (by decide) (by omega) 0 (ok := fun _ => True) (okp := fun _ => True) rfl (fun _ hk => hk) trivial (pxd) (Nat.le_trans (Nat.mul_le_mul_right _ (pxd : ji4.toNat ≤ 35184372088832)) (by omega)) (Below.refl _ _) (Nat.le_refl _) ?_; intro v119 w7 ho8 hb hg_ hnew_; clear hg_ hnew_; (first | rw [← Ny118.out] at ho8 | (simp only [Int.reduceToNat] at ho8; rw [← Ny118.out] at ho8)); have HO120 := Aside0.mk (Kd.R_lower ho8 (below_size (pxb HB))); replace HO_6 := Aside0.mk (Kd.S_elder' (by (with_reducible repeat (first | apply Kd.S_alloc | apply Kd.S_drewN | apply Kd.S_drew)); exact HO_6.out) (Kd.R_base ho8) hb); replace HB := pxs HB hb; clear hb ho8))
      repeat (go_quiet (fail); try go_wp2_with (first | ((with_reducible refine gate_dst (N := 19) rfl ?_); refine Kd.R_make (Kd.int .i64) _ 3 rfl (N := 19) rfl 84 _ _ rfl ji4 rfl rfl Try.underlying84 (.int .i64 0) 8 info3 rfl (by decide) (by omega) 0 (ok := fun _ => True) (okp := fun _ => True) rfl (fun _ hk => hk) trivial (pxd) (Nat.le_trans (Nat.mul_le_mul_right _ (pxd : ji4.toNat ≤ 35184372088832)) (by omega)) (Below.refl _ _) (Nat.le_refl _) ?_; intro v119 w7 ho8 hb hg_ hnew_; clear hg_ hnew_; (first | rw [← Ny118.out] at ho8 | (simp only [Int.reduceToNat] at ho8; rw [← Ny118.out] at ho8)); have HO120 := Aside0.mk (Kd.R_lower ho8 (below_size (pxb HB))); replace HO_6 := Aside0.mk (Kd.S_elder' (by (with_reducible repeat (first | apply Kd.S_alloc | apply Kd.S_drewN | apply Kd.S_drew)); exact HO_6.out) (Kd.R_base ho8) hb); replace HB := pxs HB hb; clear hb ho8)))
      go_loopg [9] k1 (fun kq v9 w' => ∃ (x8_2 : List Int) (x9_2 : Int), v9 = .int .i64 x9_2 ∧ Aside0 (diff_common.l1 kq a0 a1 x6_1 x7_1 x8_2 x9_2 = some (r1, r2)) ∧ Aside0 (kq ≤ k1) ∧ Aside0 (Kd.S (Kd.slice 3 (Kd.int .i64)) 84 w' w.heap.size (fun k_ => some k_ ≠ (v119 : Value).ownBlock) u6 x6_1) ∧ Aside0 (Kd.R (Kd.int .i64) 3 w' w.heap.size (fun _ => True) v119 x8_2) ∧ Aside0 (Below w.heap.size w w'))
      case atStart => exact ⟨(y118), (wrap64 (-x7_1)), (by first | rfl | (simp; done) | (simp [*]; done)), H', ⟨Nat.le_refl _⟩, ⟨by (with_reducible repeat (first | apply Kd.S_alloc | apply Kd.S_drewN | apply Kd.S_drew)); exact Kd.S_mono HO_6.out (fun _ hk => hk.2)⟩, ⟨pxr HO120⟩, ⟨pxb HB⟩⟩
      case round =>
       clear H'
       (try clear c2); (try clear p2); (try clear c3); (try clear c3b0); (try clear c5); (try clear c5b0); (try clear c5b1); (try clear c6); (try clear c6b0); (try clear c6b1); (try clear p6)
       obtain ⟨x8_2, x9_2, rfl, HA, HK2, HO_6, HO_8, HB⟩ := hrel
       cases gk with
       | zero => exact absurd HA.out (by simp [diff_common.l1])
       | succ k2 =>
        have H := HA.out
        clear HA
        simp only [diff_common.l1] at H
        by_cases c9 : x9_2 ≤ x7_1
        ·rw [if_pos c9] at H
         have c9b0 : decide (x9_2 ≤ x7_1) = true := decide_eq_true c9
         clear c9
         have HC10 := Aside0.mk H
         clear H
         go_upto_if 28 with (fail)
         repeat (go_quiet (fail); go_upto_if 28 with (fail))
         go_cut [10] (fun v10 wc => ∃ (kq : Nat) (x10_9 : Int), v10 = .int .i64 x10_9 ∧ Aside0 (diff_common.j2 kq a0 a1 x6_1 x7_1 x8_2 x9_2 x10_9 = some (r1, r2)) ∧ Aside0 (kq ≤ k2) ∧ Aside0 (Kd.S (Kd.slice 3 (Kd.int .i64)) 84 wc w.heap.size (fun k_ => some k_ ≠ (v119 : Value).ownBlock) u6 x6_1) ∧ Aside0 (Kd.R (Kd.int .i64) 3 wc w.heap.size (fun _ => True) v119 x8_2) ∧ Aside0 (Below w.heap.size w wc))
         case first =>
          have H := HC10.out
          clear HC10
          by_cases c11 : x7_1 > 0
          ·rw [if_pos c11] at H
           have c11b0 : decide (0 < x7_1) = true := decide_eq_true c11
           clear c11
           (first | rw [c11b0] | (simp only [i64_w, i32_w]; rw [c11b0]) | skip)
           obtain ⟨ji12, hji12⟩ : ∃ j_ : Int, (wrap64 (x7_1 - 1)) = j_ := ⟨_, rfl⟩
           replace H : (if 0 ≤ (ji12) then (if (ji12) < (x6_1.length : Int) then ((diff_step.f k2 (rd_L1 x6_1 (ji12)) x9_2 x7_1).bind fun t125 => (diff_common.j2 k2 a0 a1 x6_1 x7_1 x8_2 x9_2 t125)) else (none)) else (none)) = some (r1, r2) := by first | (rw [hji12] at H; exact H) | (simp only [hji12] at H ⊢; exact H)
           have hji12w : (IntKind.i64.wrap (x7_1 - 1)) = ji12 := (i64_w _).trans hji12
           by_cases c13 : 0 ≤ (ji12)
           ·rw [if_pos c13] at H
            have c13b0 : decide (0 ≤ (ji12)) = true := decide_eq_true c13
            clear c13
            by_cases c14 : (ji12) < (x6_1.length : Int)
            ·rw [if_pos c14] at H
             have c14b0 : decide ((ji12) < (x6_1.length : Int)) = true := decide_eq_true c14
             clear c14
             replace H := Option.bind_eq_some_iff.mp H
             obtain ⟨t125, A150, H⟩ := H
             replace H : (diff_common.j2 k2 a0 a1 x6_1 x7_1 x8_2 x9_2 t125) = some (r1, r2) := H
             have A15 := Aside0.mk A150
             clear A150
             have H' := Aside0.mk H
             clear H
             obtain ⟨Ao16, co16, eo16⟩ := Kd.S_slice HO_6.out
             subst eo16
             have p124 : 0 ≤ ((ji12) : Int) := pxd
             have q124 : (ji12) < (x6_1.length : Int) := pxd
             obtain ⟨ad124, A124_0, c124_0, e124, hx124_0, hl124_0, hi124_0⟩ := at_L1 (Kd.S_reads' HO_6.out).2.2 (ji12) p124 q124
             cases e124
             obtain ⟨ce124, hce124, hMe124, hcc124⟩ := Kd.S_get HO_6.out [] (ji12) p124 (by first | exact q124 | exact pxd | (have e_ := (Kd.S_reads' HO_6.out).1; omega))
             obtain ⟨ve124_0, rfl, ge124_0⟩ := hMe124
             have hv124_0 := hcc124 0 _ rfl
             rw [Nat.add_zero, show ((Kd.slice 3 (Kd.int .i64))).sz = 1 from rfl, Nat.mul_one] at hv124_0
             replace hv124_0 := Option.some.inj (hv124_0.symm.trans hx124_0)
             rw [hv124_0] at ge124_0
             have HL124_0 := Aside0.mk (show Kd.R (Kd.int .i64) 3 _ _ _ _ (rd_L1 x6_1 (ji12)) from ge124_0)
             clear hv124_0 ge124_0
             clear hcc124 hce124
             have HR124_0 := Aside0.mk hi124_0
             have HC124_0 := Aside0.mk hl124_0
             clear hi124_0 hl124_0
             replace p124 := eq_true p124
             replace q124 := eq_true q124
             go_wp2_with (first | (go_at_call 40; (with_reducible refine (diff_step.calls k2 _ _ (rd_L1 x6_1 (ji12)) x9_2 x7_1 t125 _ ?side1 ?side2 A15.out).mono ?_); (case side1 => repeat (first | exact (by repeat (first | (with_reducible exact HR124_0.out) | (with_reducible refine Kd.C_alloc ?_ _) | (with_reducible refine Kd.C_drewN ?_ _) | (with_reducible refine Kd.C_drew ?_) | exact HR124_0.out)) | (with_reducible refine Kd.C_alloc ?_ _) | (with_reducible refine Kd.C_drewN ?_ _) | (with_reducible refine Kd.C_drew ?_))); (case side2 => exact HC124_0.out); rintro e w' ⟨rfl, ⟨nd, rfl⟩⟩; (try first | exact ⟨rfl, _, World.drewN_drewN _ _ _⟩ | exact ⟨rfl, _, Eq.trans (World.drewN_drewN _ _ _) (congrArg (World.drewN _) (Nat.add_assoc _ _ _))⟩)))
             repeat (go_quiet (fail); try go_wp2_with (first | (go_at_call 40; (with_reducible refine (diff_step.calls k2 _ _ (rd_L1 x6_1 (ji12)) x9_2 x7_1 t125 _ ?side1 ?side2 A15.out).mono ?_); (case side1 => repeat (first | exact (by repeat (first | (with_reducible exact HR124_0.out) | (with_reducible refine Kd.C_alloc ?_ _) | (with_reducible refine Kd.C_drewN ?_ _) | (with_reducible refine Kd.C_drew ?_) | exact HR124_0.out)) | (with_reducible refine Kd.C_alloc ?_ _) | (with_reducible refine Kd.C_drewN ?_ _) | (with_reducible refine Kd.C_drew ?_))); (case side2 => exact HC124_0.out); rintro e w' ⟨rfl, ⟨nd, rfl⟩⟩; (try first | exact ⟨rfl, _, World.drewN_drewN _ _ _⟩ | exact ⟨rfl, _, Eq.trans (World.drewN_drewN _ _ _) (congrArg (World.drewN _) (Nat.add_assoc _ _ _))⟩))))
             go_meet
             case rel => exact ⟨_, (t125), (by first | rfl | (simp; done) | (simp [*]; done)), H', ⟨by have := HK1.out; have := HK2.out; first | omega | exact Nat.le_refl _⟩, ⟨by (with_reducible repeat (first | apply Kd.S_alloc | apply Kd.S_drewN | apply Kd.S_drew)); exact HO_6.out⟩, ⟨pxr HO_8⟩, ⟨pxb HB⟩⟩
            ·rw [if_neg c14] at H
             exact absurd H (by simp)
           ·rw [if_neg c13] at H
            exact absurd H (by simp)
          ·rw [if_neg c11] at H
           have c11b0 : decide (0 < x7_1) = false := decide_eq_false c11
           clear c11
           (first | rw [c11b0] | (simp only [i64_w, i32_w]; rw [c11b0]) | skip)
           have H' := Aside0.mk H
           clear H
           go_wp2
           repeat (go_quiet (fail); try go_wp2)
           go_meet
           case rel => exact ⟨_, (0), (by first | rfl | (simp; done) | (simp [*]; done)), H', ⟨by have := HK1.out; have := HK2.out; first | omega | exact Nat.le_refl _⟩, ⟨by (with_reducible repeat (first | apply Kd.S_alloc | apply Kd.S_drewN | apply Kd.S_drew)); exact HO_6.out⟩, ⟨pxr HO_8⟩, ⟨pxb HB⟩⟩
         case rest => as_aux_lemma =>
          clear HC10
          (try clear c1); (try clear p1); (try clear q1); (try clear hx1); (try clear c2); (try clear p2); (try clear c3); (try clear c3b0); (try clear c5); (try clear c5b0); (try clear c5b1); (try clear c6); (try clear c6b0); (try clear c6b1); (try clear p6); (try clear c9); (try clear c9b0); (try clear c11); (try clear c11b0); (try clear c12); (try clear p12); (try clear q12); (try clear hx12); (try clear c13); (try clear c13b0); (try clear c14); (try clear c14b0); (try clear hx124_0); (try clear p124); (try clear q124)
          obtain ⟨kq, x10_9, rfl, HA, HJ9, HO_6, HO_8, HB⟩ := hcut
          cases kq with
          | zero => exact absurd HA.out (by simp [diff_common.j2])
          | succ kj9 =>
           have H := HA.out
           clear HA
           simp only [diff_common.j2] at H
           have H' := Aside0.mk H
           clear H
           go_wp2
           repeat (go_quiet (fail); try go_wp2)
           go_loopg [10, 11] kj9 (fun kq v10 v11 w' => ∃ (x10_4 : Int) (x11_4 : Int), v10 = .int .i64 x10_4 ∧ v11 = .int .i64 x11_4 ∧ Aside0 (diff_common.l2 kq a0 a1 x6_1 x7_1 x8_2 x9_2 x10_4 x11_4 = some (r1, r2)) ∧ Aside0 (kq ≤ kj9) ∧ Aside0 (Kd.S (Kd.slice 3 (Kd.int .i64)) 84 w' w.heap.size (fun k_ => some k_ ≠ (v119 : Value).ownBlock) u6 x6_1) ∧ Aside0 (Kd.R (Kd.int .i64) 3 w' w.heap.size (fun _ => True) v119 x8_2) ∧ Aside0 (Below w.heap.size w w'))
           case atStart => exact ⟨(x10_9), (wrap64 (x10_9 - x9_2)), (by first | rfl | (simp; done) | (simp [*]; done)), (by first | rfl | (simp; done) | (simp [*]; done)), H', ⟨Nat.le_refl _⟩, ⟨by (with_reducible repeat (first | apply Kd.S_alloc | apply Kd.S_drewN | apply Kd.S_drew)); exact HO_6.out⟩, ⟨pxr HO_8⟩, ⟨pxb HB⟩⟩
           case round =>
            clear H'
            (try clear c1); (try clear p1); (try clear q1); (try clear hx1); (try clear c2); (try clear p2); (try clear c3); (try clear c3b0); (try clear c5); (try clear c5b0); (try clear c5b1); (try clear c6); (try clear c6b0); (try clear c6b1); (try clear p6); (try clear c9); (try clear c9b0); (try clear c11); (try clear c11b0); (try clear c12); (try clear p12); (try clear q12); (try clear hx12); (try clear c13); (try clear c13b0); (try clear c14); (try clear c14b0); (try clear hx124_0); (try clear p124); (try clear q124)
            obtain ⟨x10_4, x11_4, rfl, rfl, HA, HK4, HO_6, HO_8, HB⟩ := hrel
            cases gk with
            | zero => exact absurd HA.out (by simp [diff_common.l2])
            | succ k4 =>
             have H := HA.out
             clear HA
             simp only [diff_common.l2] at H
             by_cases c17 : x10_4 ≥ 0
             ·rw [if_pos c17] at H
              have c17b0 : decide (0 ≤ x10_4) = true := decide_eq_true c17
              clear c17
              by_cases c18 : x11_4 ≥ 0
              ·rw [if_pos c18] at H
               have c18b0 : decide (0 ≤ x11_4) = true := decide_eq_true c18
               clear c18
               by_cases c19 : x10_4 < (a0.size : Int)
               ·rw [if_pos c19] at H
                have c19b0 : decide (x10_4 < (a0.size : Int)) = true := decide_eq_true c19
                clear c19
                by_cases c20 : x11_4 < (a1.size : Int)
                ·rw [if_pos c20] at H
                 have c20b0 : decide (x11_4 < (a1.size : Int)) = true := decide_eq_true c20
                 clear c20
                 by_cases c21 : 0 ≤ x10_4
                 ·rw [if_pos c21] at H
                  have c21b0 : decide (0 ≤ x10_4) = true := decide_eq_true c21
                  clear c21
                  by_cases c23 : 0 ≤ x11_4
                  ·rw [if_pos c23] at H
                   have c23b0 : decide (0 ≤ x11_4) = true := decide_eq_true c23
                   clear c23
                   by_cases c25 : (bt a0 x10_4) = (bt a1 x11_4)
                   ·rw [if_pos c25] at H
                    have c25b0 : ((bt a0 x10_4) == (bt a1 x11_4)) = true := beq_iff_eq.mpr c25
                    have c25b1 : ((bt a0 x10_4) != (bt a1 x11_4)) = false := bne_eq_false_iff_eq.mpr c25
                    clear c25
                    have H' := Aside0.mk H
                    clear H
                    have p22 : 0 ≤ (x10_4 : Int) := pxd
                    have q22 : x10_4 < (a0.size : Int) := pxd
                    have hx22 := bt_at a0 x10_4
                    replace p22 := eq_true p22
                    replace q22 := eq_true q22
                    have p24 : 0 ≤ (x11_4 : Int) := pxd
                    have q24 : x11_4 < (a1.size : Int) := pxd
                    have hx24 := bt_at a1 x11_4
                    replace p24 := eq_true p24
                    replace q24 := eq_true q24
                    go_wp2
                    repeat (go_quiet (fail); try go_wp2)
                    go_roundg k4
                    case measure => have := HK1.out; have := HK2.out; have := HJ9.out; have := HK4.out; omega
                    case rel => exact ⟨(wrap64 (x10_4 + 1)), (wrap64 (x11_4 + 1)), (by first | rfl | (simp; done) | (simp [*]; done)), (by first | rfl | (simp; done) | (simp [*]; done)), H', ⟨by have := HK1.out; have := HK2.out; have := HJ9.out; have := HK4.out; omega⟩, ⟨by (with_reducible repeat (first | apply Kd.S_alloc | apply Kd.S_drewN | apply Kd.S_drew)); exact HO_6.out⟩, ⟨pxr HO_8⟩, ⟨pxb HB⟩⟩
                   ·rw [if_neg c25] at H
                    have c25b0 : ((bt a0 x10_4) == (bt a1 x11_4)) = false := beq_eq_false_iff_ne.mpr c25
                    have c25b1 : ((bt a0 x10_4) != (bt a1 x11_4)) = true := bne_iff_ne.mpr c25
                    obtain ⟨ji26, hji26⟩ : ∃ j_ : Int, (wrap64 ((wrap64 (x9_2 + x7_1)) + 1)) = j_ := ⟨_, rfl⟩
                    replace H : (if 0 ≤ (ji26) then (if (ji26) < (x8_2.length : Int) then ((some (x8_2.set ((ji26) : Int).toNat x10_4 : List Int)).bind fun y126 => (if x10_4 ≥ (a0.size : Int) then (if x11_4 ≥ (a1.size : Int) then (if x6_1.length < 5864062014805 then ((diff_back.f k4 a0 a1 (x6_1 ++ [y126])).bind fun t130 => (some (t130, true))) else (none)) else (diff_common.l1 k4 a0 a1 x6_1 x7_1 y126 (wrap64 (x9_2 + 2)))) else (diff_common.l1 k4 a0 a1 x6_1 x7_1 y126 (wrap64 (x9_2 + 2))))) else (none)) else (none)) = some (r1, r2) := by first | (rw [hji26] at H; exact H) | (simp only [hji26] at H ⊢; exact H)
                    have hji26w : (IntKind.i64.wrap ((wrap64 (x9_2 + x7_1)) + 1)) = ji26 := (i64_w _).trans hji26
                    by_cases c27 : 0 ≤ (ji26)
                    ·rw [if_pos c27] at H
                     have c27b0 : decide (0 ≤ (ji26)) = true := decide_eq_true c27
                     clear c27
                     by_cases c28 : (ji26) < (x8_2.length : Int)
                     ·rw [if_pos c28] at H
                      have c28b0 : decide ((ji26) < (x8_2.length : Int)) = true := decide_eq_true c28
                      clear c28
                      obtain ⟨y126, hy126⟩ : ∃ y_ : List Int, y_ = (x8_2.set ((ji26) : Int).toNat x10_4) := ⟨_, rfl⟩
                      replace H : (if x10_4 ≥ (a0.size : Int) then (if x11_4 ≥ (a1.size : Int) then (if x6_1.length < 5864062014805 then ((diff_back.f k4 a0 a1 (x6_1 ++ [y126])).bind fun t130 => (some (t130, true))) else (none)) else (diff_common.l1 k4 a0 a1 x6_1 x7_1 y126 (wrap64 (x9_2 + 2)))) else (diff_common.l1 k4 a0 a1 x6_1 x7_1 y126 (wrap64 (x9_2 + 2)))) = some (r1, r2) := by first | (rw [hy126]; with_reducible exact H) | (have H2_ := (Option.bind_some _ _).symm.trans H; rw [hy126]; with_reducible exact H2_) | (have H2_ := (Option.bind_some _ _).symm.trans H; with_reducible exact H2_) | with_reducible exact H | (rw [hy126]; exact H) | exact H
                      have Ny126 := Aside0.mk hy126
                      clear hy126
                      by_cases c30 : x10_4 ≥ (a0.size : Int)
                      ·rw [if_pos c30] at H
                       have c30b0 : decide ((a0.size : Int) ≤ x10_4) = true := decide_eq_true c30
                       clear c30
                       by_cases c31 : x11_4 ≥ (a1.size : Int)
                       ·rw [if_pos c31] at H
                        have c31b0 : decide ((a1.size : Int) ≤ x11_4) = true := decide_eq_true c31
                        clear c31
                        by_cases c32 : x6_1.length < 5864062014805
                        ·rw [if_pos c32] at H
                         have LMc32 := Aside0.mk c32
                         clear c32
                         obtain ⟨y127, hy127⟩ : ∃ y_ : List (List Int), y_ = (x6_1 ++ [y126]) := ⟨_, rfl⟩
                         replace H : ((diff_back.f k4 a0 a1 y127).bind fun t130 => (some (t130, true))) = some (r1, r2) := by first | (rw [hy127]; with_reducible exact H) | (have H2_ := (Option.bind_some _ _).symm.trans H; rw [hy127]; with_reducible exact H2_) | (have H2_ := (Option.bind_some _ _).symm.trans H; with_reducible exact H2_) | with_reducible exact H | (rw [hy127]; exact H) | exact H
                         have Ny127 := Aside0.mk hy127
                         clear hy127
                         replace H := Option.bind_eq_some_iff.mp H
                         obtain ⟨t130, A330, H⟩ := H
                         replace H : (some (t130, true)) = some (r1, r2) := H
                         have A33 := Aside0.mk A330
                         clear A330
                         simp only [Option.some.injEq, Prod.mk.injEq] at H
                         obtain ⟨rfl, rfl⟩ := H
                         have p22 : 0 ≤ (x10_4 : Int) := pxd
                         have q22 : x10_4 < (a0.size : Int) := pxd
                         have hx22 := bt_at a0 x10_4
                         replace p22 := eq_true p22
                         replace q22 := eq_true q22
                         have p24 : 0 ≤ (x11_4 : Int) := pxd
                         have q24 : x11_4 < (a1.size : Int) := pxd
                         have hx24 := bt_at a1 x11_4
                         replace p24 := eq_true p24
                         replace q24 := eq_true q24
                         have p29 : 0 ≤ ((ji26) : Int) := pxd
                         have q29 : ((ji26) : Int) < ((x8_2.length : Int) : Int) := pxd
                         obtain ⟨go29, co29, eo29, gb29, gl29, cl29, HG29⟩ := Kd.R_form HO_8.out (by omega)
                         (first | cases eo29 | (injection eo29 with ea_ en_ ec_; (first | subst ea_ | (injection ea_ with ea_; subst ea_)); subst ec_; clear en_))
                         have GB29 := Aside0.mk gb29
                         have GG29 := Aside0.mk HG29
                         clear gb29 gl29 HG29
                         obtain ⟨hx29_0, hf29_0⟩ := Kd.R_celln 0 HO_8.out ((ji26) : Int) p29 q29
                         replace p29 := eq_true p29
                         replace q29 := eq_true q29
                         have HP34 := Kd.R_putg HO_8.out ((ji26) : Int) x10_4
                         go_wp2_with (first | ((with_reducible refine gate_store (t := 3) (p := 77) rfl ?_); (try (rw [drewN_self wr]; generalize hq_ : World.drewN wr _ = wr; have n0_ := Aside0.mk (Kd.S_at hq_ HO_6.out); have n1_ := Aside0.mk (Kd.R_at hq_ HO_8.out); have n2_ := Aside0.mk (below_at hq_ HB.out); clear hq_ HO_6 HO_8 HB; have HO_6 := n0_; have HO_8 := n1_; have HB := n2_; clear n0_ n1_ n2_; (try (have HP34 := Kd.R_putg HO_8.out ((ji26) : Int) x10_4)); (try (obtain ⟨hx29n_0, hf29n_0⟩ := Kd.R_celln 0 HO_8.out ((ji26) : Int) (of_eq_true p29) (of_eq_true q29))))); refine store_event (t := 3) (p := 77) (v := ?vo_w35) (w1 := (wr.setCell ⟨go29, ((ji26) : Int).toNat, none⟩ (.int .i64 x10_4))) ?hg ?ho ?hn ?hr ?_; (case ho => rfl); (case hg => rfl); (case hn => rfl); (case hr => first | (go_simp; done) | (go_simp; rfl)); intro w35 hw; have hg : wr.grownBy w35 (some go29) := (by rw [hw]; exact HP34.2); have hp_ : Kd.R (Kd.int .i64) 3 w35 w.heap.size (fun _ => True) (.slice (some ⟨go29, 0, none⟩) x8_2.length co29) y126 := (by rw [hw, Ny126.out]; exact HP34.1); clear HP34; replace HO_6 := Aside0.mk (Kd.S_after (v := (.slice (some ⟨go29, 0, none⟩) x8_2.length co29)) (v1 := (.slice (some ⟨go29, 0, none⟩) x8_2.length co29)) (ok := (fun _ => True)) (by (with_reducible repeat (first | apply Kd.S_alloc | apply Kd.S_drewN | apply Kd.S_drew)); exact Kd.S_mono HO_6.out (fun _ hk => ⟨trivial, hk⟩)) hg (.inl rfl)); replace HO_8 := Aside0.mk (hp_); replace HB := Aside0.mk ((by rw [hw]; exact below_set (HB.out) GB29.out : Below w.heap.size w w35)); clear hg hw hp_) | ((with_reducible refine gate_builtin (b := .append) (xs := #[.tmp 90, .tmp 92]) rfl ?_); at_builtin; refine Kd.S_append (Kd.slice 3 (Kd.int .i64)) (w0 := w) w.heap.size rfl (.tmp 90) (.tmp 92) 83 84 (.slice none 0 0) 24 rfl Try.underlying83 info84 rfl (by decide) (by omega) u6 x6_1 y126 [.slice (some ⟨go29, 0, none⟩) x8_2.length co29] (fun _ => True) (fun k_ => some k_ = (.slice (some ⟨go29, 0, none⟩) x8_2.length co29 : Value).ownBlock) rfl rfl ?aP (fun k_ hk_ => ((Kd.R_mono (ok' := fun k_ => ((fun _ => True)) k_ ∧ some k_ ≠ (u6 : Value).ownBlock) (Kd.R_apart' (HO_8.out) (Kd.S_typed HO_6.out) (by decide)) (fun k_ hk => ⟨trivial, hk.2⟩))).1 k_ hk_.symm) ?aF ?aO ?aB ?aS ?aL ?_; (case aP => exact Kd.M_row (Kd.R_mono (Kd.R_tight rfl (Kd.R_mono (ok' := fun k_ => ((fun _ => True)) k_ ∧ some k_ ≠ (u6 : Value).ownBlock) (Kd.R_apart' (HO_8.out) (Kd.S_typed HO_6.out) (by decide)) (fun k_ hk => ⟨trivial, hk.2⟩))) (fun _ h_ => h_))); (case aB => exact (pxb HB)); (case aF => exact (fun _ _ => trivial)); (case aO => exact (by (with_reducible repeat (first | apply Kd.S_alloc | apply Kd.S_drewN | apply Kd.S_drew)); exact Kd.S_mono HO_6.out (fun k_ hk => ⟨trivial, fun e_ => hk.2 e_⟩))); (case aS => exact (below_size (pxb HB))); (case aL => have := LMc32.out; omega); intro v128 w36 ho hb hg hat; rw [← Ny127.out] at ho; have n0_ := Aside0.mk (hb); have n1_ := Aside0.mk (ho); clear HB; clear HO_6; clear HO_8; have HB := n0_; have HO129 := n1_; clear n0_ n1_; clear ho hb hg hat; obtain ⟨Ao37, co37, eo37⟩ := Kd.S_slice HO129.out; subst eo37) | (go_at_call 41; (with_reducible refine (diff_back.calls k4 a0 a1 _ _ y127 t130 _ ?side1 ?side2 A33.out).mono ?_); (case side1 => repeat (first | exact (Kd.S_reads' HO129.out).2.2 | (with_reducible refine Kd.C_alloc ?_ _) | (with_reducible refine Kd.C_drewN ?_ _) | (with_reducible refine Kd.C_drew ?_))); (case side2 => exact (Kd.S_reads' HO129.out).2.1); rintro e w38 ⟨v131, rfl, ho0, hb⟩; have HO132 := Aside0.mk (Kd.R_lower ho0 (below_size (pxb HB))); replace HO129 := Aside0.mk (Kd.S_below (by (with_reducible repeat (first | apply Kd.S_alloc | apply Kd.S_drewN | apply Kd.S_drew)); exact HO129.out) hb); replace HB := pxs HB hb; (try clear hb); (try clear hb2); (try clear hk); (try clear hi); (try clear ho0)))
                         repeat (go_quiet (fail); try go_wp2_with (first | ((with_reducible refine gate_store (t := 3) (p := 77) rfl ?_); (try (rw [drewN_self wr]; generalize hq_ : World.drewN wr _ = wr; have n0_ := Aside0.mk (Kd.S_at hq_ HO_6.out); have n1_ := Aside0.mk (Kd.R_at hq_ HO_8.out); have n2_ := Aside0.mk (below_at hq_ HB.out); clear hq_ HO_6 HO_8 HB; have HO_6 := n0_; have HO_8 := n1_; have HB := n2_; clear n0_ n1_ n2_; (try (have HP34 := Kd.R_putg HO_8.out ((ji26) : Int) x10_4)); (try (obtain ⟨hx29n_0, hf29n_0⟩ := Kd.R_celln 0 HO_8.out ((ji26) : Int) (of_eq_true p29) (of_eq_true q29))))); refine store_event (t := 3) (p := 77) (v := ?vo_w35) (w1 := (wr.setCell ⟨go29, ((ji26) : Int).toNat, none⟩ (.int .i64 x10_4))) ?hg ?ho ?hn ?hr ?_; (case ho => rfl); (case hg => rfl); (case hn => rfl); (case hr => first | (go_simp; done) | (go_simp; rfl)); intro w35 hw; have hg : wr.grownBy w35 (some go29) := (by rw [hw]; exact HP34.2); have hp_ : Kd.R (Kd.int .i64) 3 w35 w.heap.size (fun _ => True) (.slice (some ⟨go29, 0, none⟩) x8_2.length co29) y126 := (by rw [hw, Ny126.out]; exact HP34.1); clear HP34; replace HO_6 := Aside0.mk (Kd.S_after (v := (.slice (some ⟨go29, 0, none⟩) x8_2.length co29)) (v1 := (.slice (some ⟨go29, 0, none⟩) x8_2.length co29)) (ok := (fun _ => True)) (by (with_reducible repeat (first | apply Kd.S_alloc | apply Kd.S_drewN | apply Kd.S_drew)); exact Kd.S_mono HO_6.out (fun _ hk => ⟨trivial, hk⟩)) hg (.inl rfl)); replace HO_8 := Aside0.mk (hp_); replace HB := Aside0.mk ((by rw [hw]; exact below_set (HB.out) GB29.out : Below w.heap.size w w35)); clear hg hw hp_) | ((with_reducible refine gate_builtin (b := .append) (xs := #[.tmp 90, .tmp 92]) rfl ?_); at_builtin; refine Kd.S_append (Kd.slice 3 (Kd.int .i64)) (w0 := w) w.heap.size rfl (.tmp 90) (.tmp 92) 83 84 (.slice none 0 0) 24 rfl Try.underlying83 info84 rfl (by decide) (by omega) u6 x6_1 y126 [.slice (some ⟨go29, 0, none⟩) x8_2.length co29] (fun _ => True) (fun k_ => some k_ = (.slice (some ⟨go29, 0, none⟩) x8_2.length co29 : Value).ownBlock) rfl rfl ?aP (fun k_ hk_ => ((Kd.R_mono (ok' := fun k_ => ((fun _ => True)) k_ ∧ some k_ ≠ (u6 : Value).ownBlock) (Kd.R_apart' (HO_8.out) (Kd.S_typed HO_6.out) (by decide)) (fun k_ hk => ⟨trivial, hk.2⟩))).1 k_ hk_.symm) ?aF ?aO ?aB ?aS ?aL ?_; (case aP => exact Kd.M_row (Kd.R_mono (Kd.R_tight rfl (Kd.R_mono (ok' := fun k_ => ((fun _ => True)) k_ ∧ some k_ ≠ (u6 : Value).ownBlock) (Kd.R_apart' (HO_8.out) (Kd.S_typed HO_6.out) (by decide)) (fun k_ hk => ⟨trivial, hk.2⟩))) (fun _ h_ => h_))); (case aB => exact (pxb HB)); (case aF => exact (fun _ _ => trivial)); (case aO => exact (by (with_reducible repeat (first | apply Kd.S_alloc | apply Kd.S_drewN | apply Kd.S_drew)); exact Kd.S_mono HO_6.out (fun k_ hk => ⟨trivial, fun e_ => hk.2 e_⟩))); (case aS => exact (below_size (pxb HB))); (case aL => have := LMc32.out; omega); intro v128 w36 ho hb hg hat; rw [← Ny127.out] at ho; have n0_ := Aside0.mk (hb); have n1_ := Aside0.mk (ho); clear HB; clear HO_6; clear HO_8; have HB := n0_; have HO129 := n1_; clear n0_ n1_; clear ho hb hg hat; obtain ⟨Ao37, co37, eo37⟩ := Kd.S_slice HO129.out; subst eo37) | (go_at_call 41; (with_reducible refine (diff_back.calls k4 a0 a1 _ _ y127 t130 _ ?side1 ?side2 A33.out).mono ?_); (case side1 => repeat (first | exact (Kd.S_reads' HO129.out).2.2 | (with_reducible refine Kd.C_alloc ?_ _) | (with_reducible refine Kd.C_drewN ?_ _) | (with_reducible refine Kd.C_drew ?_))); (case side2 => exact (Kd.S_reads' HO129.out).2.1); rintro e w38 ⟨v131, rfl, ho0, hb⟩; have HO132 := Aside0.mk (Kd.R_lower ho0 (below_size (pxb HB))); replace HO129 := Aside0.mk (Kd.S_below (by (with_reducible repeat (first | apply Kd.S_alloc | apply Kd.S_drewN | apply Kd.S_drew)); exact HO129.out) hb); replace HB := pxs HB hb; (try clear hb); (try clear hb2); (try clear hk); (try clear hi); (try clear ho0))))
                         go_ret2
                         exact ⟨_, by first | rfl | (simp [errW_none, errW_some] <;> rfl) | (simp only [← hji4, ← hji26]; first | rfl | (simp [errW_none, errW_some] <;> rfl)) | (simp [*, errW_none, errW_some] <;> rfl), pxr HO132, pxb HB⟩
                        ·rw [if_neg c32] at H
                         exact absurd H (by simp)
                       ·rw [if_neg c31] at H
                        have c31b0 : decide ((a1.size : Int) ≤ x11_4) = false := decide_eq_false c31
                        clear c31
                        have H' := Aside0.mk H
                        clear H
                        have p22 : 0 ≤ (x10_4 : Int) := pxd
                        have q22 : x10_4 < (a0.size : Int) := pxd
                        have hx22 := bt_at a0 x10_4
                        replace p22 := eq_true p22
                        replace q22 := eq_true q22
                        have p24 : 0 ≤ (x11_4 : Int) := pxd
                        have q24 : x11_4 < (a1.size : Int) := pxd
                        have hx24 := bt_at a1 x11_4
                        replace p24 := eq_true p24
                        replace q24 := eq_true q24
                        have p29 : 0 ≤ ((ji26) : Int) := pxd
                        have q29 : ((ji26) : Int) < ((x8_2.length : Int) : Int) := pxd
                        obtain ⟨go29, co29, eo29, gb29, gl29, cl29, HG29⟩ := Kd.R_form HO_8.out (by omega)
                        (first | cases eo29 | (injection eo29 with ea_ en_ ec_; (first | subst ea_ | (injection ea_ with ea_; subst ea_)); subst ec_; clear en_))
                        have GB29 := Aside0.mk gb29
                        have GG29 := Aside0.mk HG29
                        clear gb29 gl29 HG29
                        obtain ⟨hx29_0, hf29_0⟩ := Kd.R_celln 0 HO_8.out ((ji26) : Int) p29 q29
                        replace p29 := eq_true p29
                        replace q29 := eq_true q29
                        have HP39 := Kd.R_putg HO_8.out ((ji26) : Int) x10_4
                        go_wp2_with (first | ((with_reducible refine gate_store (t := 3) (p := 77) rfl ?_); (try (rw [drewN_self wr]; generalize hq_ : World.drewN wr _ = wr; have n0_ := Aside0.mk (Kd.S_at hq_ HO_6.out); have n1_ := Aside0.mk (Kd.R_at hq_ HO_8.out); have n2_ := Aside0.mk (below_at hq_ HB.out); clear hq_ HO_6 HO_8 HB; have HO_6 := n0_; have HO_8 := n1_; have HB := n2_; clear n0_ n1_ n2_; (try (have HP39 := Kd.R_putg HO_8.out ((ji26) : Int) x10_4)); (try (obtain ⟨hx29n_0, hf29n_0⟩ := Kd.R_celln 0 HO_8.out ((ji26) : Int) (of_eq_true p29) (of_eq_true q29))))); refine store_event (t := 3) (p := 77) (v := ?vo_w40) (w1 := (wr.setCell ⟨go29, ((ji26) : Int).toNat, none⟩ (.int .i64 x10_4))) ?hg ?ho ?hn ?hr ?_; (case ho => rfl); (case hg => rfl); (case hn => rfl); (case hr => first | (go_simp; done) | (go_simp; rfl)); intro w40 hw; have hg : wr.grownBy w40 (some go29) := (by rw [hw]; exact HP39.2); have hp_ : Kd.R (Kd.int .i64) 3 w40 w.heap.size (fun _ => True) (.slice (some ⟨go29, 0, none⟩) x8_2.length co29) y126 := (by rw [hw, Ny126.out]; exact HP39.1); clear HP39; replace HO_6 := Aside0.mk (Kd.S_after (v := (.slice (some ⟨go29, 0, none⟩) x8_2.length co29)) (v1 := (.slice (some ⟨go29, 0, none⟩) x8_2.length co29)) (ok := (fun _ => True)) (by (with_reducible repeat (first | apply Kd.S_alloc | apply Kd.S_drewN | apply Kd.S_drew)); exact Kd.S_mono HO_6.out (fun _ hk => ⟨trivial, hk⟩)) hg (.inl rfl)); replace HO_8 := Aside0.mk (hp_); replace HB := Aside0.mk ((by rw [hw]; exact below_set (HB.out) GB29.out : Below w.heap.size w w40)); clear hg hw hp_))
                        repeat (go_quiet (fail); try go_wp2_with (first | ((with_reducible refine gate_store (t := 3) (p := 77) rfl ?_); (try (rw [drewN_self wr]; generalize hq_ : World.drewN wr _ = wr; have n0_ := Aside0.mk (Kd.S_at hq_ HO_6.out); have n1_ := Aside0.mk (Kd.R_at hq_ HO_8.out); have n2_ := Aside0.mk (below_at hq_ HB.out); clear hq_ HO_6 HO_8 HB; have HO_6 := n0_; have HO_8 := n1_; have HB := n2_; clear n0_ n1_ n2_; (try (have HP39 := Kd.R_putg HO_8.out ((ji26) : Int) x10_4)); (try (obtain ⟨hx29n_0, hf29n_0⟩ := Kd.R_celln 0 HO_8.out ((ji26) : Int) (of_eq_true p29) (of_eq_true q29))))); refine store_event (t := 3) (p := 77) (v := ?vo_w40) (w1 := (wr.setCell ⟨go29, ((ji26) : Int).toNat, none⟩ (.int .i64 x10_4))) ?hg ?ho ?hn ?hr ?_; (case ho => rfl); (case hg => rfl); (case hn => rfl); (case hr => first | (go_simp; done) | (go_simp; rfl)); intro w40 hw; have hg : wr.grownBy w40 (some go29) := (by rw [hw]; exact HP39.2); have hp_ : Kd.R (Kd.int .i64) 3 w40 w.heap.size (fun _ => True) (.slice (some ⟨go29, 0, none⟩) x8_2.length co29) y126 := (by rw [hw, Ny126.out]; exact HP39.1); clear HP39; replace HO_6 := Aside0.mk (Kd.S_after (v := (.slice (some ⟨go29, 0, none⟩) x8_2.length co29)) (v1 := (.slice (some ⟨go29, 0, none⟩) x8_2.length co29)) (ok := (fun _ => True)) (by (with_reducible repeat (first | apply Kd.S_alloc | apply Kd.S_drewN | apply Kd.S_drew)); exact Kd.S_mono HO_6.out (fun _ hk => ⟨trivial, hk⟩)) hg (.inl rfl)); replace HO_8 := Aside0.mk (hp_); replace HB := Aside0.mk ((by rw [hw]; exact below_set (HB.out) GB29.out : Below w.heap.size w w40)); clear hg hw hp_)))
                        go_roundg k4
                        case measure => have := HK1.out; have := HK2.out; have := HJ9.out; have := HK4.out; omega
                        case rel => exact ⟨(y126), (wrap64 (x9_2 + 2)), (by first | rfl | (simp; done) | (simp [*]; done)), H', ⟨by have := HK1.out; have := HK2.out; have := HJ9.out; have := HK4.out; omega⟩, ⟨by (with_reducible repeat (first | apply Kd.S_alloc | apply Kd.S_drewN | apply Kd.S_drew)); exact Kd.S_mono HO_6.out (fun _ hk => hk.2)⟩, ⟨pxr HO_8⟩, ⟨pxb HB⟩⟩
                      ·rw [if_neg c30] at H
                       have c30b0 : decide ((a0.size : Int) ≤ x10_4) = false := decide_eq_false c30
                       clear c30
                       have H' := Aside0.mk H
                       clear H
                       have p22 : 0 ≤ (x10_4 : Int) := pxd
                       have q22 : x10_4 < (a0.size : Int) := pxd
                       have hx22 := bt_at a0 x10_4
                       replace p22 := eq_true p22
                       replace q22 := eq_true q22
                       have p24 : 0 ≤ (x11_4 : Int) := pxd
                       have q24 : x11_4 < (a1.size : Int) := pxd
                       have hx24 := bt_at a1 x11_4
                       replace p24 := eq_true p24
                       replace q24 := eq_true q24
                       have p29 : 0 ≤ ((ji26) : Int) := pxd
                       have q29 : ((ji26) : Int) < ((x8_2.length : Int) : Int) := pxd
                       obtain ⟨go29, co29, eo29, gb29, gl29, cl29, HG29⟩ := Kd.R_form HO_8.out (by omega)
                       (first | cases eo29 | (injection eo29 with ea_ en_ ec_; (first | subst ea_ | (injection ea_ with ea_; subst ea_)); subst ec_; clear en_))
                       have GB29 := Aside0.mk gb29
                       have GG29 := Aside0.mk HG29
                       clear gb29 gl29 HG29
                       obtain ⟨hx29_0, hf29_0⟩ := Kd.R_celln 0 HO_8.out ((ji26) : Int) p29 q29
                       replace p29 := eq_true p29
                       replace q29 := eq_true q29
                       have HP41 := Kd.R_putg HO_8.out ((ji26) : Int) x10_4
                       go_wp2_with (first | ((with_reducible refine gate_store (t := 3) (p := 77) rfl ?_); (try (rw [drewN_self wr]; generalize hq_ : World.drewN wr _ = wr; have n0_ := Aside0.mk (Kd.S_at hq_ HO_6.out); have n1_ := Aside0.mk (Kd.R_at hq_ HO_8.out); have n2_ := Aside0.mk (below_at hq_ HB.out); clear hq_ HO_6 HO_8 HB; have HO_6 := n0_; have HO_8 := n1_; have HB := n2_; clear n0_ n1_ n2_; (try (have HP41 := Kd.R_putg HO_8.out ((ji26) : Int) x10_4)); (try (obtain ⟨hx29n_0, hf29n_0⟩ := Kd.R_celln 0 HO_8.out ((ji26) : Int) (of_eq_true p29) (of_eq_true q29))))); refine store_event (t := 3) (p := 77) (v := ?vo_w42) (w1 := (wr.setCell ⟨go29, ((ji26) : Int).toNat, none⟩ (.int .i64 x10_4))) ?hg ?ho ?hn ?hr ?_; (case ho => rfl); (case hg => rfl); (case hn => rfl); (case hr => first | (go_simp; done) | (go_simp; rfl)); intro w42 hw; have hg : wr.grownBy w42 (some go29) := (by rw [hw]; exact HP41.2); have hp_ : Kd.R (Kd.int .i64) 3 w42 w.heap.size (fun _ => True) (.slice (some ⟨go29, 0, none⟩) x8_2.length co29) y126 := (by rw [hw, Ny126.out]; exact HP41.1); clear HP41; replace HO_6 := Aside0.mk (Kd.S_after (v := (.slice (some ⟨go29, 0, none⟩) x8_2.length co29)) (v1 := (.slice (some ⟨go29, 0, none⟩) x8_2.length co29)) (ok := (fun _ => True)) (by (with_reducible repeat (first | apply Kd.S_alloc | apply Kd.S_drewN | apply Kd.S_drew)); exact Kd.S_mono HO_6.out (fun _ hk => ⟨trivial, hk⟩)) hg (.inl rfl)); replace HO_8 := Aside0.mk (hp_); replace HB := Aside0.mk ((by rw [hw]; exact below_set (HB.out) GB29.out : Below w.heap.size w w42)); clear hg hw hp_))
                       repeat (go_quiet (fail); try go_wp2_with (first | ((with_reducible refine gate_store (t := 3) (p := 77) rfl ?_); (try (rw [drewN_self wr]; generalize hq_ : World.drewN wr _ = wr; have n0_ := Aside0.mk (Kd.S_at hq_ HO_6.out); have n1_ := Aside0.mk (Kd.R_at hq_ HO_8.out); have n2_ := Aside0.mk (below_at hq_ HB.out); clear hq_ HO_6 HO_8 HB; have HO_6 := n0_; have HO_8 := n1_; have HB := n2_; clear n0_ n1_ n2_; (try (have HP41 := Kd.R_putg HO_8.out ((ji26) : Int) x10_4)); (try (obtain ⟨hx29n_0, hf29n_0⟩ := Kd.R_celln 0 HO_8.out ((ji26) : Int) (of_eq_true p29) (of_eq_true q29))))); refine store_event (t := 3) (p := 77) (v := ?vo_w42) (w1 := (wr.setCell ⟨go29, ((ji26) : Int).toNat, none⟩ (.int .i64 x10_4))) ?hg ?ho ?hn ?hr ?_; (case ho => rfl); (case hg => rfl); (case hn => rfl); (case hr => first | (go_simp; done) | (go_simp; rfl)); intro w42 hw; have hg : wr.grownBy w42 (some go29) := (by rw [hw]; exact HP41.2); have hp_ : Kd.R (Kd.int .i64) 3 w42 w.heap.size (fun _ => True) (.slice (some ⟨go29, 0, none⟩) x8_2.length co29) y126 := (by rw [hw, Ny126.out]; exact HP41.1); clear HP41; replace HO_6 := Aside0.mk (Kd.S_after (v := (.slice (some ⟨go29, 0, none⟩) x8_2.length co29)) (v1 := (.slice (some ⟨go29, 0, none⟩) x8_2.length co29)) (ok := (fun _ => True)) (by (with_reducible repeat (first | apply Kd.S_alloc | apply Kd.S_drewN | apply Kd.S_drew)); exact Kd.S_mono HO_6.out (fun _ hk => ⟨trivial, hk⟩)) hg (.inl rfl)); replace HO_8 := Aside0.mk (hp_); replace HB := Aside0.mk ((by rw [hw]; exact below_set (HB.out) GB29.out : Below w.heap.size w w42)); clear hg hw hp_)))
                       go_roundg k4
                       case measure => have := HK1.out; have := HK2.out; have := HJ9.out; have := HK4.out; omega
                       case rel => exact ⟨(y126), (wrap64 (x9_2 + 2)), (by first | rfl | (simp; done) | (simp [*]; done)), H', ⟨by have := HK1.out; have := HK2.out; have := HJ9.out; have := HK4.out; omega⟩, ⟨by (with_reducible repeat (first | apply Kd.S_alloc | apply Kd.S_drewN | apply Kd.S_drew)); exact Kd.S_mono HO_6.out (fun _ hk => hk.2)⟩, ⟨pxr HO_8⟩, ⟨pxb HB⟩⟩
                     ·rw [if_neg c28] at H
                      exact absurd H (by simp)
                    ·rw [if_neg c27] at H
                     exact absurd H (by simp)
                  ·rw [if_neg c23] at H
                   exact absurd H (by simp)
                 ·rw [if_neg c21] at H
                  exact absurd H (by simp)
                ·rw [if_neg c20] at H
                 have c20b0 : decide (x11_4 < (a1.size : Int)) = false := decide_eq_false c20
                 clear c20
                 obtain ⟨ji43, hji43⟩ : ∃ j_ : Int, (wrap64 ((wrap64 (x9_2 + x7_1)) + 1)) = j_ := ⟨_, rfl⟩
                 replace H : (if 0 ≤ (ji43) then (if (ji43) < (x8_2.length : Int) then ((some (x8_2.set ((ji43) : Int).toNat x10_4 : List Int)).bind fun y133 => (if x10_4 ≥ (a0.size : Int) then (if x11_4 ≥ (a1.size : Int) then (if x6_1.length < 5864062014805 then ((diff_back.f k4 a0 a1 (x6_1 ++ [y133])).bind fun t137 => (some (t137, true))) else (none)) else (diff_common.l1 k4 a0 a1 x6_1 x7_1 y133 (wrap64 (x9_2 + 2)))) else (diff_common.l1 k4 a0 a1 x6_1 x7_1 y133 (wrap64 (x9_2 + 2))))) else (none)) else (none)) = some (r1, r2) := by first | (rw [hji43] at H; exact H) | (simp only [hji43] at H ⊢; exact H)
                 have hji43w : (IntKind.i64.wrap ((wrap64 (x9_2 + x7_1)) + 1)) = ji43 := (i64_w _).trans hji43
                 by_cases c44 : 0 ≤ (ji43)
                 ·rw [if_pos c44] at H
                  have c44b0 : decide (0 ≤ (ji43)) = true := decide_eq_true c44
                  clear c44
                  by_cases c45 : (ji43) < (x8_2.length : Int)
                  ·rw [if_pos c45] at H
                   have c45b0 : decide ((ji43) < (x8_2.length : Int)) = true := decide_eq_true c45
                   clear c45
                   obtain ⟨y133, hy133⟩ : ∃ y_ : List Int, y_ = (x8_2.set ((ji43) : Int).toNat x10_4) := ⟨_, rfl⟩
                   replace H : (if x10_4 ≥ (a0.size : Int) then (if x11_4 ≥ (a1.size : Int) then (if x6_1.length < 5864062014805 then ((diff_back.f k4 a0 a1 (x6_1 ++ [y133])).bind fun t137 => (some (t137, true))) else (none)) else (diff_common.l1 k4 a0 a1 x6_1 x7_1 y133 (wrap64 (x9_2 + 2)))) else (diff_common.l1 k4 a0 a1 x6_1 x7_1 y133 (wrap64 (x9_2 + 2)))) = some (r1, r2) := by first | (rw [hy133]; with_reducible exact H) | (have H2_ := (Option.bind_some _ _).symm.trans H; rw [hy133]; with_reducible exact H2_) | (have H2_ := (Option.bind_some _ _).symm.trans H; with_reducible exact H2_) | with_reducible exact H | (rw [hy133]; exact H) | exact H
                   have Ny133 := Aside0.mk hy133
                   clear hy133
                   by_cases c47 : x10_4 ≥ (a0.size : Int)
                   ·rw [if_pos c47] at H
                    have c47b0 : decide ((a0.size : Int) ≤ x10_4) = true := decide_eq_true c47
                    clear c47
                    by_cases c48 : x11_4 ≥ (a1.size : Int)
                    ·rw [if_pos c48] at H
                     have c48b0 : decide ((a1.size : Int) ≤ x11_4) = true := decide_eq_true c48
                     clear c48
                     by_cases c49 : x6_1.length < 5864062014805
                     ·rw [if_pos c49] at H
                      have LMc49 := Aside0.mk c49
                      clear c49
                      obtain ⟨y134, hy134⟩ : ∃ y_ : List (List Int), y_ = (x6_1 ++ [y133]) := ⟨_, rfl⟩
                      replace H : ((diff_back.f k4 a0 a1 y134).bind fun t137 => (some (t137, true))) = some (r1, r2) := by first | (rw [hy134]; with_reducible exact H) | (have H2_ := (Option.bind_some _ _).symm.trans H; rw [hy134]; with_reducible exact H2_) | (have H2_ := (Option.bind_some _ _).symm.trans H; with_reducible exact H2_) | with_reducible exact H | (rw [hy134]; exact H) | exact H
                      have Ny134 := Aside0.mk hy134
                      clear hy134
                      replace H := Option.bind_eq_some_iff.mp H
                      obtain ⟨t137, A500, H⟩ := H
                      replace H : (some (t137, true)) = some (r1, r2) := H
                      have A50 := Aside0.mk A500
                      clear A500
                      simp only [Option.some.injEq, Prod.mk.injEq] at H
                      obtain ⟨rfl, rfl⟩ := H
                      have p46 : 0 ≤ ((ji43) : Int) := pxd
                      have q46 : ((ji43) : Int) < ((x8_2.length : Int) : Int) := pxd
                      obtain ⟨go46, co46, eo46, gb46, gl46, cl46, HG46⟩ := Kd.R_form HO_8.out (by omega)
                      (first | cases eo46 | (injection eo46 with ea_ en_ ec_; (first | subst ea_ | (injection ea_ with ea_; subst ea_)); subst ec_; clear en_))
                      have GB46 := Aside0.mk gb46
                      have GG46 := Aside0.mk HG46
                      clear gb46 gl46 HG46
                      obtain ⟨hx46_0, hf46_0⟩ := Kd.R_celln 0 HO_8.out ((ji43) : Int) p46 q46
                      replace p46 := eq_true p46
                      replace q46 := eq_true q46
                      have HP51 := Kd.R_putg HO_8.out ((ji43) : Int) x10_4
                      go_wp2_with (first | ((with_reducible refine gate_store (t := 3) (p := 77) rfl ?_); (try (rw [drewN_self wr]; generalize hq_ : World.drewN wr _ = wr; have n0_ := Aside0.mk (Kd.S_at hq_ HO_6.out); have n1_ := Aside0.mk (Kd.R_at hq_ HO_8.out); have n2_ := Aside0.mk (below_at hq_ HB.out); clear hq_ HO_6 HO_8 HB; have HO_6 := n0_; have HO_8 := n1_; have HB := n2_; clear n0_ n1_ n2_; (try (have HP51 := Kd.R_putg HO_8.out ((ji43) : Int) x10_4)); (try (obtain ⟨hx46n_0, hf46n_0⟩ := Kd.R_celln 0 HO_8.out ((ji43) : Int) (of_eq_true p46) (of_eq_true q46))))); refine store_event (t := 3) (p := 77) (v := ?vo_w52) (w1 := (wr.setCell ⟨go46, ((ji43) : Int).toNat, none⟩ (.int .i64 x10_4))) ?hg ?ho ?hn ?hr ?_; (case ho => rfl); (case hg => rfl); (case hn => rfl); (case hr => first | (go_simp; done) | (go_simp; rfl)); intro w52 hw; have hg : wr.grownBy w52 (some go46) := (by rw [hw]; exact HP51.2); have hp_ : Kd.R (Kd.int .i64) 3 w52 w.heap.size (fun _ => True) (.slice (some ⟨go46, 0, none⟩) x8_2.length co46) y133 := (by rw [hw, Ny133.out]; exact HP51.1); clear HP51; replace HO_6 := Aside0.mk (Kd.S_after (v := (.slice (some ⟨go46, 0, none⟩) x8_2.length co46)) (v1 := (.slice (some ⟨go46, 0, none⟩) x8_2.length co46)) (ok := (fun _ => True)) (by (with_reducible repeat (first | apply Kd.S_alloc | apply Kd.S_drewN | apply Kd.S_drew)); exact Kd.S_mono HO_6.out (fun _ hk => ⟨trivial, hk⟩)) hg (.inl rfl)); replace HO_8 := Aside0.mk (hp_); replace HB := Aside0.mk ((by rw [hw]; exact below_set (HB.out) GB46.out : Below w.heap.size w w52)); clear hg hw hp_) | ((with_reducible refine gate_builtin (b := .append) (xs := #[.tmp 90, .tmp 92]) rfl ?_); at_builtin; refine Kd.S_append (Kd.slice 3 (Kd.int .i64)) (w0 := w) w.heap.size rfl (.tmp 90) (.tmp 92) 83 84 (.slice none 0 0) 24 rfl Try.underlying83 info84 rfl (by decide) (by omega) u6 x6_1 y133 [.slice (some ⟨go46, 0, none⟩) x8_2.length co46] (fun _ => True) (fun k_ => some k_ = (.slice (some ⟨go46, 0, none⟩) x8_2.length co46 : Value).ownBlock) rfl rfl ?aP (fun k_ hk_ => ((Kd.R_mono (ok' := fun k_ => ((fun _ => True)) k_ ∧ some k_ ≠ (u6 : Value).ownBlock) (Kd.R_apart' (HO_8.out) (Kd.S_typed HO_6.out) (by decide)) (fun k_ hk => ⟨trivial, hk.2⟩))).1 k_ hk_.symm) ?aF ?aO ?aB ?aS ?aL ?_; (case aP => exact Kd.M_row (Kd.R_mono (Kd.R_tight rfl (Kd.R_mono (ok' := fun k_ => ((fun _ => True)) k_ ∧ some k_ ≠ (u6 : Value).ownBlock) (Kd.R_apart' (HO_8.out) (Kd.S_typed HO_6.out) (by decide)) (fun k_ hk => ⟨trivial, hk.2⟩))) (fun _ h_ => h_))); (case aB => exact (pxb HB)); (case aF => exact (fun _ _ => trivial)); (case aO => exact (by (with_reducible repeat (first | apply Kd.S_alloc | apply Kd.S_drewN | apply Kd.S_drew)); exact Kd.S_mono HO_6.out (fun k_ hk => ⟨trivial, fun e_ => hk.2 e_⟩))); (case aS => exact (below_size (pxb HB))); (case aL => have := LMc49.out; omega); intro v135 w53 ho hb hg hat; rw [← Ny134.out] at ho; have n0_ := Aside0.mk (hb); have n1_ := Aside0.mk (ho); clear HB; clear HO_6; clear HO_8; have HB := n0_; have HO136 := n1_; clear n0_ n1_; clear ho hb hg hat; obtain ⟨Ao54, co54, eo54⟩ := Kd.S_slice HO136.out; subst eo54) | (go_at_call 41; (with_reducible refine (diff_back.calls k4 a0 a1 _ _ y134 t137 _ ?side1 ?side2 A50.out).mono ?_); (case side1 => repeat (first | exact (Kd.S_reads' HO136.out).2.2 | (with_reducible refine Kd.C_alloc ?_ _) | (with_reducible refine Kd.C_drewN ?_ _) | (with_reducible refine Kd.C_drew ?_))); (case side2 => exact (Kd.S_reads' HO136.out).2.1); rintro e w55 ⟨v138, rfl, ho0, hb⟩; have HO139 := Aside0.mk (Kd.R_lower ho0 (below_size (pxb HB))); replace HO136 := Aside0.mk (Kd.S_below (by (with_reducible repeat (first | apply Kd.S_alloc | apply Kd.S_drewN | apply Kd.S_drew)); exact HO136.out) hb); replace HB := pxs HB hb; (try clear hb); (try clear hb2); (try clear hk); (try clear hi); (try clear ho0)))
                      repeat (go_quiet (fail); try go_wp2_with (first | ((with_reducible refine gate_store (t := 3) (p := 77) rfl ?_); (try (rw [drewN_self wr]; generalize hq_ : World.drewN wr _ = wr; have n0_ := Aside0.mk (Kd.S_at hq_ HO_6.out); have n1_ := Aside0.mk (Kd.R_at hq_ HO_8.out); have n2_ := Aside0.mk (below_at hq_ HB.out); clear hq_ HO_6 HO_8 HB; have HO_6 := n0_; have HO_8 := n1_; have HB := n2_; clear n0_ n1_ n2_; (try (have HP51 := Kd.R_putg HO_8.out ((ji43) : Int) x10_4)); (try (obtain ⟨hx46n_0, hf46n_0⟩ := Kd.R_celln 0 HO_8.out ((ji43) : Int) (of_eq_true p46) (of_eq_true q46))))); refine store_event (t := 3) (p := 77) (v := ?vo_w52) (w1 := (wr.setCell ⟨go46, ((ji43) : Int).toNat, none⟩ (.int .i64 x10_4))) ?hg ?ho ?hn ?hr ?_; (case ho => rfl); (case hg => rfl); (case hn => rfl); (case hr => first | (go_simp; done) | (go_simp; rfl)); intro w52 hw; have hg : wr.grownBy w52 (some go46) := (by rw [hw]; exact HP51.2); have hp_ : Kd.R (Kd.int .i64) 3 w52 w.heap.size (fun _ => True) (.slice (some ⟨go46, 0, none⟩) x8_2.length co46) y133 := (by rw [hw, Ny133.out]; exact HP51.1); clear HP51; replace HO_6 := Aside0.mk (Kd.S_after (v := (.slice (some ⟨go46, 0, none⟩) x8_2.length co46)) (v1 := (.slice (some ⟨go46, 0, none⟩) x8_2.length co46)) (ok := (fun _ => True)) (by (with_reducible repeat (first | apply Kd.S_alloc | apply Kd.S_drewN | apply Kd.S_drew)); exact Kd.S_mono HO_6.out (fun _ hk => ⟨trivial, hk⟩)) hg (.inl rfl)); replace HO_8 := Aside0.mk (hp_); replace HB := Aside0.mk ((by rw [hw]; exact below_set (HB.out) GB46.out : Below w.heap.size w w52)); clear hg hw hp_) | ((with_reducible refine gate_builtin (b := .append) (xs := #[.tmp 90, .tmp 92]) rfl ?_); at_builtin; refine Kd.S_append (Kd.slice 3 (Kd.int .i64)) (w0 := w) w.heap.size rfl (.tmp 90) (.tmp 92) 83 84 (.slice none 0 0) 24 rfl Try.underlying83 info84 rfl (by decide) (by omega) u6 x6_1 y133 [.slice (some ⟨go46, 0, none⟩) x8_2.length co46] (fun _ => True) (fun k_ => some k_ = (.slice (some ⟨go46, 0, none⟩) x8_2.length co46 : Value).ownBlock) rfl rfl ?aP (fun k_ hk_ => ((Kd.R_mono (ok' := fun k_ => ((fun _ => True)) k_ ∧ some k_ ≠ (u6 : Value).ownBlock) (Kd.R_apart' (HO_8.out) (Kd.S_typed HO_6.out) (by decide)) (fun k_ hk => ⟨trivial, hk.2⟩))).1 k_ hk_.symm) ?aF ?aO ?aB ?aS ?aL ?_; (case aP => exact Kd.M_row (Kd.R_mono (Kd.R_tight rfl (Kd.R_mono (ok' := fun k_ => ((fun _ => True)) k_ ∧ some k_ ≠ (u6 : Value).ownBlock) (Kd.R_apart' (HO_8.out) (Kd.S_typed HO_6.out) (by decide)) (fun k_ hk => ⟨trivial, hk.2⟩))) (fun _ h_ => h_))); (case aB => exact (pxb HB)); (case aF => exact (fun _ _ => trivial)); (case aO => exact (by (with_reducible repeat (first | apply Kd.S_alloc | apply Kd.S_drewN | apply Kd.S_drew)); exact Kd.S_mono HO_6.out (fun k_ hk => ⟨trivial, fun e_ => hk.2 e_⟩))); (case aS => exact (below_size (pxb HB))); (case aL => have := LMc49.out; omega); intro v135 w53 ho hb hg hat; rw [← Ny134.out] at ho; have n0_ := Aside0.mk (hb); have n1_ := Aside0.mk (ho); clear HB; clear HO_6; clear HO_8; have HB := n0_; have HO136 := n1_; clear n0_ n1_; clear ho hb hg hat; obtain ⟨Ao54, co54, eo54⟩ := Kd.S_slice HO136.out; subst eo54) | (go_at_call 41; (with_reducible refine (diff_back.calls k4 a0 a1 _ _ y134 t137 _ ?side1 ?side2 A50.out).mono ?_); (case side1 => repeat (first | exact (Kd.S_reads' HO136.out).2.2 | (with_reducible refine Kd.C_alloc ?_ _) | (with_reducible refine Kd.C_drewN ?_ _) | (with_reducible refine Kd.C_drew ?_))); (case side2 => exact (Kd.S_reads' HO136.out).2.1); rintro e w55 ⟨v138, rfl, ho0, hb⟩; have HO139 := Aside0.mk (Kd.R_lower ho0 (below_size (pxb HB))); replace HO136 := Aside0.mk (Kd.S_below (by (with_reducible repeat (first | apply Kd.S_alloc | apply Kd.S_drewN | apply Kd.S_drew)); exact HO136.out) hb); replace HB := pxs HB hb; (try clear hb); (try clear hb2); (try clear hk); (try clear hi); (try clear ho0))))
                      go_ret2
                      exact ⟨_, by first | rfl | (simp [errW_none, errW_some] <;> rfl) | (simp only [← hji4, ← hji43]; first | rfl | (simp [errW_none, errW_some] <;> rfl)) | (simp [*, errW_none, errW_some] <;> rfl), pxr HO139, pxb HB⟩
                     ·rw [if_neg c49] at H
                      exact absurd H (by simp)
                    ·rw [if_neg c48] at H
                     have c48b0 : decide ((a1.size : Int) ≤ x11_4) = false := decide_eq_false c48
                     clear c48
                     have H' := Aside0.mk H
                     clear H
                     have p46 : 0 ≤ ((ji43) : Int) := pxd
                     have q46 : ((ji43) : Int) < ((x8_2.length : Int) : Int) := pxd
                     obtain ⟨go46, co46, eo46, gb46, gl46, cl46, HG46⟩ := Kd.R_form HO_8.out (by omega)
                     (first | cases eo46 | (injection eo46 with ea_ en_ ec_; (first | subst ea_ | (injection ea_ with ea_; subst ea_)); subst ec_; clear en_))
                     have GB46 := Aside0.mk gb46
                     have GG46 := Aside0.mk HG46
                     clear gb46 gl46 HG46
                     obtain ⟨hx46_0, hf46_0⟩ := Kd.R_celln 0 HO_8.out ((ji43) : Int) p46 q46
                     replace p46 := eq_true p46
                     replace q46 := eq_true q46
                     have HP56 := Kd.R_putg HO_8.out ((ji43) : Int) x10_4
                     go_wp2_with (first | ((with_reducible refine gate_store (t := 3) (p := 77) rfl ?_); (try (rw [drewN_self wr]; generalize hq_ : World.drewN wr _ = wr; have n0_ := Aside0.mk (Kd.S_at hq_ HO_6.out); have n1_ := Aside0.mk (Kd.R_at hq_ HO_8.out); have n2_ := Aside0.mk (below_at hq_ HB.out); clear hq_ HO_6 HO_8 HB; have HO_6 := n0_; have HO_8 := n1_; have HB := n2_; clear n0_ n1_ n2_; (try (have HP56 := Kd.R_putg HO_8.out ((ji43) : Int) x10_4)); (try (obtain ⟨hx46n_0, hf46n_0⟩ := Kd.R_celln 0 HO_8.out ((ji43) : Int) (of_eq_true p46) (of_eq_true q46))))); refine store_event (t := 3) (p := 77) (v := ?vo_w57) (w1 := (wr.setCell ⟨go46, ((ji43) : Int).toNat, none⟩ (.int .i64 x10_4))) ?hg ?ho ?hn ?hr ?_; (case ho => rfl); (case hg => rfl); (case hn => rfl); (case hr => first | (go_simp; done) | (go_simp; rfl)); intro w57 hw; have hg : wr.grownBy w57 (some go46) := (by rw [hw]; exact HP56.2); have hp_ : Kd.R (Kd.int .i64) 3 w57 w.heap.size (fun _ => True) (.slice (some ⟨go46, 0, none⟩) x8_2.length co46) y133 := (by rw [hw, Ny133.out]; exact HP56.1); clear HP56; replace HO_6 := Aside0.mk (Kd.S_after (v := (.slice (some ⟨go46, 0, none⟩) x8_2.length co46)) (v1 := (.slice (some ⟨go46, 0, none⟩) x8_2.length co46)) (ok := (fun _ => True)) (by (with_reducible repeat (first | apply Kd.S_alloc | apply Kd.S_drewN | apply Kd.S_drew)); exact Kd.S_mono HO_6.out (fun _ hk => ⟨trivial, hk⟩)) hg (.inl rfl)); replace HO_8 := Aside0.mk (hp_); replace HB := Aside0.mk ((by rw [hw]; exact below_set (HB.out) GB46.out : Below w.heap.size w w57)); clear hg hw hp_))
                     repeat (go_quiet (fail); try go_wp2_with (first | ((with_reducible refine gate_store (t := 3) (p := 77) rfl ?_); (try (rw [drewN_self wr]; generalize hq_ : World.drewN wr _ = wr; have n0_ := Aside0.mk (Kd.S_at hq_ HO_6.out); have n1_ := Aside0.mk (Kd.R_at hq_ HO_8.out); have n2_ := Aside0.mk (below_at hq_ HB.out); clear hq_ HO_6 HO_8 HB; have HO_6 := n0_; have HO_8 := n1_; have HB := n2_; clear n0_ n1_ n2_; (try (have HP56 := Kd.R_putg HO_8.out ((ji43) : Int) x10_4)); (try (obtain ⟨hx46n_0, hf46n_0⟩ := Kd.R_celln 0 HO_8.out ((ji43) : Int) (of_eq_true p46) (of_eq_true q46))))); refine store_event (t := 3) (p := 77) (v := ?vo_w57) (w1 := (wr.setCell ⟨go46, ((ji43) : Int).toNat, none⟩ (.int .i64 x10_4))) ?hg ?ho ?hn ?hr ?_; (case ho => rfl); (case hg => rfl); (case hn => rfl); (case hr => first | (go_simp; done) | (go_simp; rfl)); intro w57 hw; have hg : wr.grownBy w57 (some go46) := (by rw [hw]; exact HP56.2); have hp_ : Kd.R (Kd.int .i64) 3 w57 w.heap.size (fun _ => True) (.slice (some ⟨go46, 0, none⟩) x8_2.length co46) y133 := (by rw [hw, Ny133.out]; exact HP56.1); clear HP56; replace HO_6 := Aside0.mk (Kd.S_after (v := (.slice (some ⟨go46, 0, none⟩) x8_2.length co46)) (v1 := (.slice (some ⟨go46, 0, none⟩) x8_2.length co46)) (ok := (fun _ => True)) (by (with_reducible repeat (first | apply Kd.S_alloc | apply Kd.S_drewN | apply Kd.S_drew)); exact Kd.S_mono HO_6.out (fun _ hk => ⟨trivial, hk⟩)) hg (.inl rfl)); replace HO_8 := Aside0.mk (hp_); replace HB := Aside0.mk ((by rw [hw]; exact below_set (HB.out) GB46.out : Below w.heap.size w w57)); clear hg hw hp_)))
                     go_roundg k4
                     case measure => have := HK1.out; have := HK2.out; have := HJ9.out; have := HK4.out; omega
                     case rel => exact ⟨(y133), (wrap64 (x9_2 + 2)), (by first | rfl | (simp; done) | (simp [*]; done)), H', ⟨by have := HK1.out; have := HK2.out; have := HJ9.out; have := HK4.out; omega⟩, ⟨by (with_reducible repeat (first | apply Kd.S_alloc | apply Kd.S_drewN | apply Kd.S_drew)); exact Kd.S_mono HO_6.out (fun _ hk => hk.2)⟩, ⟨pxr HO_8⟩, ⟨pxb HB⟩⟩
                   ·rw [if_neg c47] at H
                    have c47b0 : decide ((a0.size : Int) ≤ x10_4) = false := decide_eq_false c47
                    clear c47
                    have H' := Aside0.mk H
                    clear H
                    have p46 : 0 ≤ ((ji43) : Int) := pxd
                    have q46 : ((ji43) : Int) < ((x8_2.length : Int) : Int) := pxd
                    obtain ⟨go46, co46, eo46, gb46, gl46, cl46, HG46⟩ := Kd.R_form HO_8.out (by omega)
                    (first | cases eo46 | (injection eo46 with ea_ en_ ec_; (first | subst ea_ | (injection ea_ with ea_; subst ea_)); subst ec_; clear en_))
                    have GB46 := Aside0.mk gb46
                    have GG46 := Aside0.mk HG46
                    clear gb46 gl46 HG46
                    obtain ⟨hx46_0, hf46_0⟩ := Kd.R_celln 0 HO_8.out ((ji43) : Int) p46 q46
                    replace p46 := eq_true p46
                    replace q46 := eq_true q46
                    have HP58 := Kd.R_putg HO_8.out ((ji43) : Int) x10_4
                    go_wp2_with (first | ((with_reducible refine gate_store (t := 3) (p := 77) rfl ?_); (try (rw [drewN_self wr]; generalize hq_ : World.drewN wr _ = wr; have n0_ := Aside0.mk (Kd.S_at hq_ HO_6.out); have n1_ := Aside0.mk (Kd.R_at hq_ HO_8.out); have n2_ := Aside0.mk (below_at hq_ HB.out); clear hq_ HO_6 HO_8 HB; have HO_6 := n0_; have HO_8 := n1_; have HB := n2_; clear n0_ n1_ n2_; (try (have HP58 := Kd.R_putg HO_8.out ((ji43) : Int) x10_4)); (try (obtain ⟨hx46n_0, hf46n_0⟩ := Kd.R_celln 0 HO_8.out ((ji43) : Int) (of_eq_true p46) (of_eq_true q46))))); refine store_event (t := 3) (p := 77) (v := ?vo_w59) (w1 := (wr.setCell ⟨go46, ((ji43) : Int).toNat, none⟩ (.int .i64 x10_4))) ?hg ?ho ?hn ?hr ?_; (case ho => rfl); (case hg => rfl); (case hn => rfl); (case hr => first | (go_simp; done) | (go_simp; rfl)); intro w59 hw; have hg : wr.grownBy w59 (some go46) := (by rw [hw]; exact HP58.2); have hp_ : Kd.R (Kd.int .i64) 3 w59 w.heap.size (fun _ => True) (.slice (some ⟨go46, 0, none⟩) x8_2.length co46) y133 := (by rw [hw, Ny133.out]; exact HP58.1); clear HP58; replace HO_6 := Aside0.mk (Kd.S_after (v := (.slice (some ⟨go46, 0, none⟩) x8_2.length co46)) (v1 := (.slice (some ⟨go46, 0, none⟩) x8_2.length co46)) (ok := (fun _ => True)) (by (with_reducible repeat (first | apply Kd.S_alloc | apply Kd.S_drewN | apply Kd.S_drew)); exact Kd.S_mono HO_6.out (fun _ hk => ⟨trivial, hk⟩)) hg (.inl rfl)); replace HO_8 := Aside0.mk (hp_); replace HB := Aside0.mk ((by rw [hw]; exact below_set (HB.out) GB46.out : Below w.heap.size w w59)); clear hg hw hp_))
                    repeat (go_quiet (fail); try go_wp2_with (first | ((with_reducible refine gate_store (t := 3) (p := 77) rfl ?_); (try (rw [drewN_self wr]; generalize hq_ : World.drewN wr _ = wr; have n0_ := Aside0.mk (Kd.S_at hq_ HO_6.out); have n1_ := Aside0.mk (Kd.R_at hq_ HO_8.out); have n2_ := Aside0.mk (below_at hq_ HB.out); clear hq_ HO_6 HO_8 HB; have HO_6 := n0_; have HO_8 := n1_; have HB := n2_; clear n0_ n1_ n2_; (try (have HP58 := Kd.R_putg HO_8.out ((ji43) : Int) x10_4)); (try (obtain ⟨hx46n_0, hf46n_0⟩ := Kd.R_celln 0 HO_8.out ((ji43) : Int) (of_eq_true p46) (of_eq_true q46))))); refine store_event (t := 3) (p := 77) (v := ?vo_w59) (w1 := (wr.setCell ⟨go46, ((ji43) : Int).toNat, none⟩ (.int .i64 x10_4))) ?hg ?ho ?hn ?hr ?_; (case ho => rfl); (case hg => rfl); (case hn => rfl); (case hr => first | (go_simp; done) | (go_simp; rfl)); intro w59 hw; have hg : wr.grownBy w59 (some go46) := (by rw [hw]; exact HP58.2); have hp_ : Kd.R (Kd.int .i64) 3 w59 w.heap.size (fun _ => True) (.slice (some ⟨go46, 0, none⟩) x8_2.length co46) y133 := (by rw [hw, Ny133.out]; exact HP58.1); clear HP58; replace HO_6 := Aside0.mk (Kd.S_after (v := (.slice (some ⟨go46, 0, none⟩) x8_2.length co46)) (v1 := (.slice (some ⟨go46, 0, none⟩) x8_2.length co46)) (ok := (fun _ => True)) (by (with_reducible repeat (first | apply Kd.S_alloc | apply Kd.S_drewN | apply Kd.S_drew)); exact Kd.S_mono HO_6.out (fun _ hk => ⟨trivial, hk⟩)) hg (.inl rfl)); replace HO_8 := Aside0.mk (hp_); replace HB := Aside0.mk ((by rw [hw]; exact below_set (HB.out) GB46.out : Below w.heap.size w w59)); clear hg hw hp_)))
                    go_roundg k4
                    case measure => have := HK1.out; have := HK2.out; have := HJ9.out; have := HK4.out; omega
                    case rel => exact ⟨(y133), (wrap64 (x9_2 + 2)), (by first | rfl | (simp; done) | (simp [*]; done)), H', ⟨by have := HK1.out; have := HK2.out; have := HJ9.out; have := HK4.out; omega⟩, ⟨by (with_reducible repeat (first | apply Kd.S_alloc | apply Kd.S_drewN | apply Kd.S_drew)); exact Kd.S_mono HO_6.out (fun _ hk => hk.2)⟩, ⟨pxr HO_8⟩, ⟨pxb HB⟩⟩
                  ·rw [if_neg c45] at H
                   exact absurd H (by simp)
                 ·rw [if_neg c44] at H
                  exact absurd H (by simp)
               ·rw [if_neg c19] at H
                have c19b0 : decide (x10_4 < (a0.size : Int)) = false := decide_eq_false c19
                clear c19
                obtain ⟨ji60, hji60⟩ : ∃ j_ : Int, (wrap64 ((wrap64 (x9_2 + x7_1)) + 1)) = j_ := ⟨_, rfl⟩
                replace H : (if 0 ≤ (ji60) then (if (ji60) < (x8_2.length : Int) then ((some (x8_2.set ((ji60) : Int).toNat x10_4 : List Int)).bind fun y140 => (if x10_4 ≥ (a0.size : Int) then (if x11_4 ≥ (a1.size : Int) then (if x6_1.length < 5864062014805 then ((diff_back.f k4 a0 a1 (x6_1 ++ [y140])).bind fun t144 => (some (t144, true))) else (none)) else (diff_common.l1 k4 a0 a1 x6_1 x7_1 y140 (wrap64 (x9_2 + 2)))) else (diff_common.l1 k4 a0 a1 x6_1 x7_1 y140 (wrap64 (x9_2 + 2))))) else (none)) else (none)) = some (r1, r2) := by first | (rw [hji60] at H; exact H) | (simp only [hji60] at H ⊢; exact H)
                have hji60w : (IntKind.i64.wrap ((wrap64 (x9_2 + x7_1)) + 1)) = ji60 := (i64_w _).trans hji60
                by_cases c61 : 0 ≤ (ji60)
                ·rw [if_pos c61] at H
                 have c61b0 : decide (0 ≤ (ji60)) = true := decide_eq_true c61
                 clear c61
                 by_cases c62 : (ji60) < (x8_2.length : Int)
                 ·rw [if_pos c62] at H
                  have c62b0 : decide ((ji60) < (x8_2.length : Int)) = true := decide_eq_true c62
                  clear c62
                  obtain ⟨y140, hy140⟩ : ∃ y_ : List Int, y_ = (x8_2.set ((ji60) : Int).toNat x10_4) := ⟨_, rfl⟩
                  replace H : (if x10_4 ≥ (a0.size : Int) then (if x11_4 ≥ (a1.size : Int) then (if x6_1.length < 5864062014805 then ((diff_back.f k4 a0 a1 (x6_1 ++ [y140])).bind fun t144 => (some (t144, true))) else (none)) else (diff_common.l1 k4 a0 a1 x6_1 x7_1 y140 (wrap64 (x9_2 + 2)))) else (diff_common.l1 k4 a0 a1 x6_1 x7_1 y140 (wrap64 (x9_2 + 2)))) = some (r1, r2) := by first | (rw [hy140]; with_reducible exact H) | (have H2_ := (Option.bind_some _ _).symm.trans H; rw [hy140]; with_reducible exact H2_) | (have H2_ := (Option.bind_some _ _).symm.trans H; with_reducible exact H2_) | with_reducible exact H | (rw [hy140]; exact H) | exact H
                  have Ny140 := Aside0.mk hy140
                  clear hy140
                  by_cases c64 : x10_4 ≥ (a0.size : Int)
                  ·rw [if_pos c64] at H
                   have c64b0 : decide ((a0.size : Int) ≤ x10_4) = true := decide_eq_true c64
                   clear c64
                   by_cases c65 : x11_4 ≥ (a1.size : Int)
                   ·rw [if_pos c65] at H
                    have c65b0 : decide ((a1.size : Int) ≤ x11_4) = true := decide_eq_true c65
                    clear c65
                    by_cases c66 : x6_1.length < 5864062014805
                    ·rw [if_pos c66] at H
                     have LMc66 := Aside0.mk c66
                     clear c66
                     obtain ⟨y141, hy141⟩ : ∃ y_ : List (List Int), y_ = (x6_1 ++ [y140]) := ⟨_, rfl⟩
                     replace H : ((diff_back.f k4 a0 a1 y141).bind fun t144 => (some (t144, true))) = some (r1, r2) := by first | (rw [hy141]; with_reducible exact H) | (have H2_ := (Option.bind_some _ _).symm.trans H; rw [hy141]; with_reducible exact H2_) | (have H2_ := (Option.bind_some _ _).symm.trans H; with_reducible exact H2_) | with_reducible exact H | (rw [hy141]; exact H) | exact H
                     have Ny141 := Aside0.mk hy141
                     clear hy141
                     replace H := Option.bind_eq_some_iff.mp H
                     obtain ⟨t144, A670, H⟩ := H
                     replace H : (some (t144, true)) = some (r1, r2) := H
                     have A67 := Aside0.mk A670
                     clear A670
                     simp only [Option.some.injEq, Prod.mk.injEq] at H
                     obtain ⟨rfl, rfl⟩ := H
                     have p63 : 0 ≤ ((ji60) : Int) := pxd
                     have q63 : ((ji60) : Int) < ((x8_2.length : Int) : Int) := pxd
                     obtain ⟨go63, co63, eo63, gb63, gl63, cl63, HG63⟩ := Kd.R_form HO_8.out (by omega)
                     (first | cases eo63 | (injection eo63 with ea_ en_ ec_; (first | subst ea_ | (injection ea_ with ea_; subst ea_)); subst ec_; clear en_))
                     have GB63 := Aside0.mk gb63
                     have GG63 := Aside0.mk HG63
                     clear gb63 gl63 HG63
                     obtain ⟨hx63_0, hf63_0⟩ := Kd.R_celln 0 HO_8.out ((ji60) : Int) p63 q63
                     replace p63 := eq_true p63
                     replace q63 := eq_true q63
                     have HP68 := Kd.R_putg HO_8.out ((ji60) : Int) x10_4
                     go_wp2_with (first | ((with_reducible refine gate_store (t := 3) (p := 77) rfl ?_); (try (rw [drewN_self wr]; generalize hq_ : World.drewN wr _ = wr; have n0_ := Aside0.mk (Kd.S_at hq_ HO_6.out); have n1_ := Aside0.mk (Kd.R_at hq_ HO_8.out); have n2_ := Aside0.mk (below_at hq_ HB.out); clear hq_ HO_6 HO_8 HB; have HO_6 := n0_; have HO_8 := n1_; have HB := n2_; clear n0_ n1_ n2_; (try (have HP68 := Kd.R_putg HO_8.out ((ji60) : Int) x10_4)); (try (obtain ⟨hx63n_0, hf63n_0⟩ := Kd.R_celln 0 HO_8.out ((ji60) : Int) (of_eq_true p63) (of_eq_true q63))))); refine store_event (t := 3) (p := 77) (v := ?vo_w69) (w1 := (wr.setCell ⟨go63, ((ji60) : Int).toNat, none⟩ (.int .i64 x10_4))) ?hg ?ho ?hn ?hr ?_; (case ho => rfl); (case hg => rfl); (case hn => rfl); (case hr => first | (go_simp; done) | (go_simp; rfl)); intro w69 hw; have hg : wr.grownBy w69 (some go63) := (by rw [hw]; exact HP68.2); have hp_ : Kd.R (Kd.int .i64) 3 w69 w.heap.size (fun _ => True) (.slice (some ⟨go63, 0, none⟩) x8_2.length co63) y140 := (by rw [hw, Ny140.out]; exact HP68.1); clear HP68; replace HO_6 := Aside0.mk (Kd.S_after (v := (.slice (some ⟨go63, 0, none⟩) x8_2.length co63)) (v1 := (.slice (some ⟨go63, 0, none⟩) x8_2.length co63)) (ok := (fun _ => True)) (by (with_reducible repeat (first | apply Kd.S_alloc | apply Kd.S_drewN | apply Kd.S_drew)); exact Kd.S_mono HO_6.out (fun _ hk => ⟨trivial, hk⟩)) hg (.inl rfl)); replace HO_8 := Aside0.mk (hp_); replace HB := Aside0.mk ((by rw [hw]; exact below_set (HB.out) GB63.out : Below w.heap.size w w69)); clear hg hw hp_) | ((with_reducible refine gate_builtin (b := .append) (xs := #[.tmp 90, .tmp 92]) rfl ?_); at_builtin; refine Kd.S_append (Kd.slice 3 (Kd.int .i64)) (w0 := w) w.heap.size rfl (.tmp 90) (.tmp 92) 83 84 (.slice none 0 0) 24 rfl Try.underlying83 info84 rfl (by decide) (by omega) u6 x6_1 y140 [.slice (some ⟨go63, 0, none⟩) x8_2.length co63] (fun _ => True) (fun k_ => some k_ = (.slice (some ⟨go63, 0, none⟩) x8_2.length co63 : Value).ownBlock) rfl rfl ?aP (fun k_ hk_ => ((Kd.R_mono (ok' := fun k_ => ((fun _ => True)) k_ ∧ some k_ ≠ (u6 : Value).ownBlock) (Kd.R_apart' (HO_8.out) (Kd.S_typed HO_6.out) (by decide)) (fun k_ hk => ⟨trivial, hk.2⟩))).1 k_ hk_.symm) ?aF ?aO ?aB ?aS ?aL ?_; (case aP => exact Kd.M_row (Kd.R_mono (Kd.R_tight rfl (Kd.R_mono (ok' := fun k_ => ((fun _ => True)) k_ ∧ some k_ ≠ (u6 : Value).ownBlock) (Kd.R_apart' (HO_8.out) (Kd.S_typed HO_6.out) (by decide)) (fun k_ hk => ⟨trivial, hk.2⟩))) (fun _ h_ => h_))); (case aB => exact (pxb HB)); (case aF => exact (fun _ _ => trivial)); (case aO => exact (by (with_reducible repeat (first | apply Kd.S_alloc | apply Kd.S_drewN | apply Kd.S_drew)); exact Kd.S_mono HO_6.out (fun k_ hk => ⟨trivial, fun e_ => hk.2 e_⟩))); (case aS => exact (below_size (pxb HB))); (case aL => have := LMc66.out; omega); intro v142 w70 ho hb hg hat; rw [← Ny141.out] at ho; have n0_ := Aside0.mk (hb); have n1_ := Aside0.mk (ho); clear HB; clear HO_6; clear HO_8; have HB := n0_; have HO143 := n1_; clear n0_ n1_; clear ho hb hg hat; obtain ⟨Ao71, co71, eo71⟩ := Kd.S_slice HO143.out; subst eo71) | (go_at_call 41; (with_reducible refine (diff_back.calls k4 a0 a1 _ _ y141 t144 _ ?side1 ?side2 A67.out).mono ?_); (case side1 => repeat (first | exact (Kd.S_reads' HO143.out).2.2 | (with_reducible refine Kd.C_alloc ?_ _) | (with_reducible refine Kd.C_drewN ?_ _) | (with_reducible refine Kd.C_drew ?_))); (case side2 => exact (Kd.S_reads' HO143.out).2.1); rintro e w72 ⟨v145, rfl, ho0, hb⟩; have HO146 := Aside0.mk (Kd.R_lower ho0 (below_size (pxb HB))); replace HO143 := Aside0.mk (Kd.S_below (by (with_reducible repeat (first | apply Kd.S_alloc | apply Kd.S_drewN | apply Kd.S_drew)); exact HO143.out) hb); replace HB := pxs HB hb; (try clear hb); (try clear hb2); (try clear hk); (try clear hi); (try clear ho0)))
                     repeat (go_quiet (fail); try go_wp2_with (first | ((with_reducible refine gate_store (t := 3) (p := 77) rfl ?_); (try (rw [drewN_self wr]; generalize hq_ : World.drewN wr _ = wr; have n0_ := Aside0.mk (Kd.S_at hq_ HO_6.out); have n1_ := Aside0.mk (Kd.R_at hq_ HO_8.out); have n2_ := Aside0.mk (below_at hq_ HB.out); clear hq_ HO_6 HO_8 HB; have HO_6 := n0_; have HO_8 := n1_; have HB := n2_; clear n0_ n1_ n2_; (try (have HP68 := Kd.R_putg HO_8.out ((ji60) : Int) x10_4)); (try (obtain ⟨hx63n_0, hf63n_0⟩ := Kd.R_celln 0 HO_8.out ((ji60) : Int) (of_eq_true p63) (of_eq_true q63))))); refine store_event (t := 3) (p := 77) (v := ?vo_w69) (w1 := (wr.setCell ⟨go63, ((ji60) : Int).toNat, none⟩ (.int .i64 x10_4))) ?hg ?ho ?hn ?hr ?_; (case ho => rfl); (case hg => rfl); (case hn => rfl); (case hr => first | (go_simp; done) | (go_simp; rfl)); intro w69 hw; have hg : wr.grownBy w69 (some go63) := (by rw [hw]; exact HP68.2); have hp_ : Kd.R (Kd.int .i64) 3 w69 w.heap.size (fun _ => True) (.slice (some ⟨go63, 0, none⟩) x8_2.length co63) y140 := (by rw [hw, Ny140.out]; exact HP68.1); clear HP68; replace HO_6 := Aside0.mk (Kd.S_after (v := (.slice (some ⟨go63, 0, none⟩) x8_2.length co63)) (v1 := (.slice (some ⟨go63, 0, none⟩) x8_2.length co63)) (ok := (fun _ => True)) (by (with_reducible repeat (first | apply Kd.S_alloc | apply Kd.S_drewN | apply Kd.S_drew)); exact Kd.S_mono HO_6.out (fun _ hk => ⟨trivial, hk⟩)) hg (.inl rfl)); replace HO_8 := Aside0.mk (hp_); replace HB := Aside0.mk ((by rw [hw]; exact below_set (HB.out) GB63.out : Below w.heap.size w w69)); clear hg hw hp_) | ((with_reducible refine gate_builtin (b := .append) (xs := #[.tmp 90, .tmp 92]) rfl ?_); at_builtin; refine Kd.S_append (Kd.slice 3 (Kd.int .i64)) (w0 := w) w.heap.size rfl (.tmp 90) (.tmp 92) 83 84 (.slice none 0 0) 24 rfl Try.underlying83 info84 rfl (by decide) (by omega) u6 x6_1 y140 [.slice (some ⟨go63, 0, none⟩) x8_2.length co63] (fun _ => True) (fun k_ => some k_ = (.slice (some ⟨go63, 0, none⟩) x8_2.length co63 : Value).ownBlock) rfl rfl ?aP (fun k_ hk_ => ((Kd.R_mono (ok' := fun k_ => ((fun _ => True)) k_ ∧ some k_ ≠ (u6 : Value).ownBlock) (Kd.R_apart' (HO_8.out) (Kd.S_typed HO_6.out) (by decide)) (fun k_ hk => ⟨trivial, hk.2⟩))).1 k_ hk_.symm) ?aF ?aO ?aB ?aS ?aL ?_; (case aP => exact Kd.M_row (Kd.R_mono (Kd.R_tight rfl (Kd.R_mono (ok' := fun k_ => ((fun _ => True)) k_ ∧ some k_ ≠ (u6 : Value).ownBlock) (Kd.R_apart' (HO_8.out) (Kd.S_typed HO_6.out) (by decide)) (fun k_ hk => ⟨trivial, hk.2⟩))) (fun _ h_ => h_))); (case aB => exact (pxb HB)); (case aF => exact (fun _ _ => trivial)); (case aO => exact (by (with_reducible repeat (first | apply Kd.S_alloc | apply Kd.S_drewN | apply Kd.S_drew)); exact Kd.S_mono HO_6.out (fun k_ hk => ⟨trivial, fun e_ => hk.2 e_⟩))); (case aS => exact (below_size (pxb HB))); (case aL => have := LMc66.out; omega); intro v142 w70 ho hb hg hat; rw [← Ny141.out] at ho; have n0_ := Aside0.mk (hb); have n1_ := Aside0.mk (ho); clear HB; clear HO_6; clear HO_8; have HB := n0_; have HO143 := n1_; clear n0_ n1_; clear ho hb hg hat; obtain ⟨Ao71, co71, eo71⟩ := Kd.S_slice HO143.out; subst eo71) | (go_at_call 41; (with_reducible refine (diff_back.calls k4 a0 a1 _ _ y141 t144 _ ?side1 ?side2 A67.out).mono ?_); (case side1 => repeat (first | exact (Kd.S_reads' HO143.out).2.2 | (with_reducible refine Kd.C_alloc ?_ _) | (with_reducible refine Kd.C_drewN ?_ _) | (with_reducible refine Kd.C_drew ?_))); (case side2 => exact (Kd.S_reads' HO143.out).2.1); rintro e w72 ⟨v145, rfl, ho0, hb⟩; have HO146 := Aside0.mk (Kd.R_lower ho0 (below_size (pxb HB))); replace HO143 := Aside0.mk (Kd.S_below (by (with_reducible repeat (first | apply Kd.S_alloc | apply Kd.S_drewN | apply Kd.S_drew)); exact HO143.out) hb); replace HB := pxs HB hb; (try clear hb); (try clear hb2); (try clear hk); (try clear hi); (try clear ho0))))
                     go_ret2
                     exact ⟨_, by first | rfl | (simp [errW_none, errW_some] <;> rfl) | (simp only [← hji4, ← hji60]; first | rfl | (simp [errW_none, errW_some] <;> rfl)) | (simp [*, errW_none, errW_some] <;> rfl), pxr HO146, pxb HB⟩
                    ·rw [if_neg c66] at H
                     exact absurd H (by simp)
                   ·rw [if_neg c65] at H
                    have c65b0 : decide ((a1.size : Int) ≤ x11_4) = false := decide_eq_false c65
                    clear c65
                    have H' := Aside0.mk H
                    clear H
                    have p63 : 0 ≤ ((ji60) : Int) := pxd
                    have q63 : ((ji60) : Int) < ((x8_2.length : Int) : Int) := pxd
                    obtain ⟨go63, co63, eo63, gb63, gl63, cl63, HG63⟩ := Kd.R_form HO_8.out (by omega)
                    (first | cases eo63 | (injection eo63 with ea_ en_ ec_; (first | subst ea_ | (injection ea_ with ea_; subst ea_)); subst ec_; clear en_))
                    have GB63 := Aside0.mk gb63
                    have GG63 := Aside0.mk HG63
                    clear gb63 gl63 HG63
                    obtain ⟨hx63_0, hf63_0⟩ := Kd.R_celln 0 HO_8.out ((ji60) : Int) p63 q63
                    replace p63 := eq_true p63
                    replace q63 := eq_true q63
                    have HP73 := Kd.R_putg HO_8.out ((ji60) : Int) x10_4
                    go_wp2_with (first | ((with_reducible refine gate_store (t := 3) (p := 77) rfl ?_); (try (rw [drewN_self wr]; generalize hq_ : World.drewN wr _ = wr; have n0_ := Aside0.mk (Kd.S_at hq_ HO_6.out); have n1_ := Aside0.mk (Kd.R_at hq_ HO_8.out); have n2_ := Aside0.mk (below_at hq_ HB.out); clear hq_ HO_6 HO_8 HB; have HO_6 := n0_; have HO_8 := n1_; have HB := n2_; clear n0_ n1_ n2_; (try (have HP73 := Kd.R_putg HO_8.out ((ji60) : Int) x10_4)); (try (obtain ⟨hx63n_0, hf63n_0⟩ := Kd.R_celln 0 HO_8.out ((ji60) : Int) (of_eq_true p63) (of_eq_true q63))))); refine store_event (t := 3) (p := 77) (v := ?vo_w74) (w1 := (wr.setCell ⟨go63, ((ji60) : Int).toNat, none⟩ (.int .i64 x10_4))) ?hg ?ho ?hn ?hr ?_; (case ho => rfl); (case hg => rfl); (case hn => rfl); (case hr => first | (go_simp; done) | (go_simp; rfl)); intro w74 hw; have hg : wr.grownBy w74 (some go63) := (by rw [hw]; exact HP73.2); have hp_ : Kd.R (Kd.int .i64) 3 w74 w.heap.size (fun _ => True) (.slice (some ⟨go63, 0, none⟩) x8_2.length co63) y140 := (by rw [hw, Ny140.out]; exact HP73.1); clear HP73; replace HO_6 := Aside0.mk (Kd.S_after (v := (.slice (some ⟨go63, 0, none⟩) x8_2.length co63)) (v1 := (.slice (some ⟨go63, 0, none⟩) x8_2.length co63)) (ok := (fun _ => True)) (by (with_reducible repeat (first | apply Kd.S_alloc | apply Kd.S_drewN | apply Kd.S_drew)); exact Kd.S_mono HO_6.out (fun _ hk => ⟨trivial, hk⟩)) hg (.inl rfl)); replace HO_8 := Aside0.mk (hp_); replace HB := Aside0.mk ((by rw [hw]; exact below_set (HB.out) GB63.out : Below w.heap.size w w74)); clear hg hw hp_))
                    repeat (go_quiet (fail); try go_wp2_with (first | ((with_reducible refine gate_store (t := 3) (p := 77) rfl ?_); (try (rw [drewN_self wr]; generalize hq_ : World.drewN wr _ = wr; have n0_ := Aside0.mk (Kd.S_at hq_ HO_6.out); have n1_ := Aside0.mk (Kd.R_at hq_ HO_8.out); have n2_ := Aside0.mk (below_at hq_ HB.out); clear hq_ HO_6 HO_8 HB; have HO_6 := n0_; have HO_8 := n1_; have HB := n2_; clear n0_ n1_ n2_; (try (have HP73 := Kd.R_putg HO_8.out ((ji60) : Int) x10_4)); (try (obtain ⟨hx63n_0, hf63n_0⟩ := Kd.R_celln 0 HO_8.out ((ji60) : Int) (of_eq_true p63) (of_eq_true q63))))); refine store_event (t := 3) (p := 77) (v := ?vo_w74) (w1 := (wr.setCell ⟨go63, ((ji60) : Int).toNat, none⟩ (.int .i64 x10_4))) ?hg ?ho ?hn ?hr ?_; (case ho => rfl); (case hg => rfl); (case hn => rfl); (case hr => first | (go_simp; done) | (go_simp; rfl)); intro w74 hw; have hg : wr.grownBy w74 (some go63) := (by rw [hw]; exact HP73.2); have hp_ : Kd.R (Kd.int .i64) 3 w74 w.heap.size (fun _ => True) (.slice (some ⟨go63, 0, none⟩) x8_2.length co63) y140 := (by rw [hw, Ny140.out]; exact HP73.1); clear HP73; replace HO_6 := Aside0.mk (Kd.S_after (v := (.slice (some ⟨go63, 0, none⟩) x8_2.length co63)) (v1 := (.slice (some ⟨go63, 0, none⟩) x8_2.length co63)) (ok := (fun _ => True)) (by (with_reducible repeat (first | apply Kd.S_alloc | apply Kd.S_drewN | apply Kd.S_drew)); exact Kd.S_mono HO_6.out (fun _ hk => ⟨trivial, hk⟩)) hg (.inl rfl)); replace HO_8 := Aside0.mk (hp_); replace HB := Aside0.mk ((by rw [hw]; exact below_set (HB.out) GB63.out : Below w.heap.size w w74)); clear hg hw hp_)))
                    go_roundg k4
                    case measure => have := HK1.out; have := HK2.out; have := HJ9.out; have := HK4.out; omega
                    case rel => exact ⟨(y140), (wrap64 (x9_2 + 2)), (by first | rfl | (simp; done) | (simp [*]; done)), H', ⟨by have := HK1.out; have := HK2.out; have := HJ9.out; have := HK4.out; omega⟩, ⟨by (with_reducible repeat (first | apply Kd.S_alloc | apply Kd.S_drewN | apply Kd.S_drew)); exact Kd.S_mono HO_6.out (fun _ hk => hk.2)⟩, ⟨pxr HO_8⟩, ⟨pxb HB⟩⟩
                  ·rw [if_neg c64] at H
                   have c64b0 : decide ((a0.size : Int) ≤ x10_4) = false := decide_eq_false c64
                   clear c64
                   have H' := Aside0.mk H
                   clear H
                   have p63 : 0 ≤ ((ji60) : Int) := pxd
                   have q63 : ((ji60) : Int) < ((x8_2.length : Int) : Int) := pxd
                   obtain ⟨go63, co63, eo63, gb63, gl63, cl63, HG63⟩ := Kd.R_form HO_8.out (by omega)
                   (first | cases eo63 | (injection eo63 with ea_ en_ ec_; (first | subst ea_ | (injection ea_ with ea_; subst ea_)); subst ec_; clear en_))
                   have GB63 := Aside0.mk gb63
                   have GG63 := Aside0.mk HG63
                   clear gb63 gl63 HG63
                   obtain ⟨hx63_0, hf63_0⟩ := Kd.R_celln 0 HO_8.out ((ji60) : Int) p63 q63
                   replace p63 := eq_true p63
                   replace q63 := eq_true q63
                   have HP75 := Kd.R_putg HO_8.out ((ji60) : Int) x10_4
                   go_wp2_with (first | ((with_reducible refine gate_store (t := 3) (p := 77) rfl ?_); (try (rw [drewN_self wr]; generalize hq_ : World.drewN wr _ = wr; have n0_ := Aside0.mk (Kd.S_at hq_ HO_6.out); have n1_ := Aside0.mk (Kd.R_at hq_ HO_8.out); have n2_ := Aside0.mk (below_at hq_ HB.out); clear hq_ HO_6 HO_8 HB; have HO_6 := n0_; have HO_8 := n1_; have HB := n2_; clear n0_ n1_ n2_; (try (have HP75 := Kd.R_putg HO_8.out ((ji60) : Int) x10_4)); (try (obtain ⟨hx63n_0, hf63n_0⟩ := Kd.R_celln 0 HO_8.out ((ji60) : Int) (of_eq_true p63) (of_eq_true q63))))); refine store_event (t := 3) (p := 77) (v := ?vo_w76) (w1 := (wr.setCell ⟨go63, ((ji60) : Int).toNat, none⟩ (.int .i64 x10_4))) ?hg ?ho ?hn ?hr ?_; (case ho => rfl); (case hg => rfl); (case hn => rfl); (case hr => first | (go_simp; done) | (go_simp; rfl)); intro w76 hw; have hg : wr.grownBy w76 (some go63) := (by rw [hw]; exact HP75.2); have hp_ : Kd.R (Kd.int .i64) 3 w76 w.heap.size (fun _ => True) (.slice (some ⟨go63, 0, none⟩) x8_2.length co63) y140 := (by rw [hw, Ny140.out]; exact HP75.1); clear HP75; replace HO_6 := Aside0.mk (Kd.S_after (v := (.slice (some ⟨go63, 0, none⟩) x8_2.length co63)) (v1 := (.slice (some ⟨go63, 0, none⟩) x8_2.length co63)) (ok := (fun _ => True)) (by (with_reducible repeat (first | apply Kd.S_alloc | apply Kd.S_drewN | apply Kd.S_drew)); exact Kd.S_mono HO_6.out (fun _ hk => ⟨trivial, hk⟩)) hg (.inl rfl)); replace HO_8 := Aside0.mk (hp_); replace HB := Aside0.mk ((by rw [hw]; exact below_set (HB.out) GB63.out : Below w.heap.size w w76)); clear hg hw hp_))
                   repeat (go_quiet (fail); try go_wp2_with (first | ((with_reducible refine gate_store (t := 3) (p := 77) rfl ?_); (try (rw [drewN_self wr]; generalize hq_ : World.drewN wr _ = wr; have n0_ := Aside0.mk (Kd.S_at hq_ HO_6.out); have n1_ := Aside0.mk (Kd.R_at hq_ HO_8.out); have n2_ := Aside0.mk (below_at hq_ HB.out); clear hq_ HO_6 HO_8 HB; have HO_6 := n0_; have HO_8 := n1_; have HB := n2_; clear n0_ n1_ n2_; (try (have HP75 := Kd.R_putg HO_8.out ((ji60) : Int) x10_4)); (try (obtain ⟨hx63n_0, hf63n_0⟩ := Kd.R_celln 0 HO_8.out ((ji60) : Int) (of_eq_true p63) (of_eq_true q63))))); refine store_event (t := 3) (p := 77) (v := ?vo_w76) (w1 := (wr.setCell ⟨go63, ((ji60) : Int).toNat, none⟩ (.int .i64 x10_4))) ?hg ?ho ?hn ?hr ?_; (case ho => rfl); (case hg => rfl); (case hn => rfl); (case hr => first | (go_simp; done) | (go_simp; rfl)); intro w76 hw; have hg : wr.grownBy w76 (some go63) := (by rw [hw]; exact HP75.2); have hp_ : Kd.R (Kd.int .i64) 3 w76 w.heap.size (fun _ => True) (.slice (some ⟨go63, 0, none⟩) x8_2.length co63) y140 := (by rw [hw, Ny140.out]; exact HP75.1); clear HP75; replace HO_6 := Aside0.mk (Kd.S_after (v := (.slice (some ⟨go63, 0, none⟩) x8_2.length co63)) (v1 := (.slice (some ⟨go63, 0, none⟩) x8_2.length co63)) (ok := (fun _ => True)) (by (with_reducible repeat (first | apply Kd.S_alloc | apply Kd.S_drewN | apply Kd.S_drew)); exact Kd.S_mono HO_6.out (fun _ hk => ⟨trivial, hk⟩)) hg (.inl rfl)); replace HO_8 := Aside0.mk (hp_); replace HB := Aside0.mk ((by rw [hw]; exact below_set (HB.out) GB63.out : Below w.heap.size w w76)); clear hg hw hp_)))
                   go_roundg k4
                   case measure => have := HK1.out; have := HK2.out; have := HJ9.out; have := HK4.out; omega
                   case rel => exact ⟨(y140), (wrap64 (x9_2 + 2)), (by first | rfl | (simp; done) | (simp [*]; done)), H', ⟨by have := HK1.out; have := HK2.out; have := HJ9.out; have := HK4.out; omega⟩, ⟨by (with_reducible repeat (first | apply Kd.S_alloc | apply Kd.S_drewN | apply Kd.S_drew)); exact Kd.S_mono HO_6.out (fun _ hk => hk.2)⟩, ⟨pxr HO_8⟩, ⟨pxb HB⟩⟩
                 ·rw [if_neg c62] at H
                  exact absurd H (by simp)
                ·rw [if_neg c61] at H
                 exact absurd H (by simp)
              ·rw [if_neg c18] at H
               have c18b0 : decide (0 ≤ x11_4) = false := decide_eq_false c18
               clear c18
               obtain ⟨ji77, hji77⟩ : ∃ j_ : Int, (wrap64 ((wrap64 (x9_2 + x7_1)) + 1)) = j_ := ⟨_, rfl⟩
               replace H : (if 0 ≤ (ji77) then (if (ji77) < (x8_2.length : Int) then ((some (x8_2.set ((ji77) : Int).toNat x10_4 : List Int)).bind fun y147 => (if x10_4 ≥ (a0.size : Int) then (if x11_4 ≥ (a1.size : Int) then (if x6_1.length < 5864062014805 then ((diff_back.f k4 a0 a1 (x6_1 ++ [y147])).bind fun t151 => (some (t151, true))) else (none)) else (diff_common.l1 k4 a0 a1 x6_1 x7_1 y147 (wrap64 (x9_2 + 2)))) else (diff_common.l1 k4 a0 a1 x6_1 x7_1 y147 (wrap64 (x9_2 + 2))))) else (none)) else (none)) = some (r1, r2) := by first | (rw [hji77] at H; exact H) | (simp only [hji77] at H ⊢; exact H)
               have hji77w : (IntKind.i64.wrap ((wrap64 (x9_2 + x7_1)) + 1)) = ji77 := (i64_w _).trans hji77
               by_cases c78 : 0 ≤ (ji77)
               ·rw [if_pos c78] at H
                have c78b0 : decide (0 ≤ (ji77)) = true := decide_eq_true c78
                clear c78
                by_cases c79 : (ji77) < (x8_2.length : Int)
                ·rw [if_pos c79] at H
                 have c79b0 : decide ((ji77) < (x8_2.length : Int)) = true := decide_eq_true c79
                 clear c79
                 obtain ⟨y147, hy147⟩ : ∃ y_ : List Int, y_ = (x8_2.set ((ji77) : Int).toNat x10_4) := ⟨_, rfl⟩
                 replace H : (if x10_4 ≥ (a0.size : Int) then (if x11_4 ≥ (a1.size : Int) then (if x6_1.length < 5864062014805 then ((diff_back.f k4 a0 a1 (x6_1 ++ [y147])).bind fun t151 => (some (t151, true))) else (none)) else (diff_common.l1 k4 a0 a1 x6_1 x7_1 y147 (wrap64 (x9_2 + 2)))) else (diff_common.l1 k4 a0 a1 x6_1 x7_1 y147 (wrap64 (x9_2 + 2)))) = some (r1, r2) := by first | (rw [hy147]; with_reducible exact H) | (have H2_ := (Option.bind_some _ _).symm.trans H; rw [hy147]; with_reducible exact H2_) | (have H2_ := (Option.bind_some _ _).symm.trans H; with_reducible exact H2_) | with_reducible exact H | (rw [hy147]; exact H) | exact H
                 have Ny147 := Aside0.mk hy147
                 clear hy147
                 by_cases c81 : x10_4 ≥ (a0.size : Int)
                 ·rw [if_pos c81] at H
                  have c81b0 : decide ((a0.size : Int) ≤ x10_4) = true := decide_eq_true c81
                  clear c81
                  by_cases c82 : x11_4 ≥ (a1.size : Int)
                  ·rw [if_pos c82] at H
                   have c82b0 : decide ((a1.size : Int) ≤ x11_4) = true := decide_eq_true c82
                   clear c82
                   by_cases c83 : x6_1.length < 5864062014805
                   ·rw [if_pos c83] at H
                    have LMc83 := Aside0.mk c83
                    clear c83
                    obtain ⟨y148, hy148⟩ : ∃ y_ : List (List Int), y_ = (x6_1 ++ [y147]) := ⟨_, rfl⟩
                    replace H : ((diff_back.f k4 a0 a1 y148).bind fun t151 => (some (t151, true))) = some (r1, r2) := by first | (rw [hy148]; with_reducible exact H) | (have H2_ := (Option.bind_some _ _).symm.trans H; rw [hy148]; with_reducible exact H2_) | (have H2_ := (Option.bind_some _ _).symm.trans H; with_reducible exact H2_) | with_reducible exact H | (rw [hy148]; exact H) | exact H
                    have Ny148 := Aside0.mk hy148
                    clear hy148
                    replace H := Option.bind_eq_some_iff.mp H
                    obtain ⟨t151, A840, H⟩ := H
                    replace H : (some (t151, true)) = some (r1, r2) := H
                    have A84 := Aside0.mk A840
                    clear A840
                    simp only [Option.some.injEq, Prod.mk.injEq] at H
                    obtain ⟨rfl, rfl⟩ := H
                    have p80 : 0 ≤ ((ji77) : Int) := pxd
                    have q80 : ((ji77) : Int) < ((x8_2.length : Int) : Int) := pxd
                    obtain ⟨go80, co80, eo80, gb80, gl80, cl80, HG80⟩ := Kd.R_form HO_8.out (by omega)
                    (first | cases eo80 | (injection eo80 with ea_ en_ ec_; (first | subst ea_ | (injection ea_ with ea_; subst ea_)); subst ec_; clear en_))
                    have GB80 := Aside0.mk gb80
                    have GG80 := Aside0.mk HG80
                    clear gb80 gl80 HG80
                    obtain ⟨hx80_0, hf80_0⟩ := Kd.R_celln 0 HO_8.out ((ji77) : Int) p80 q80
                    replace p80 := eq_true p80
                    replace q80 := eq_true q80
                    have HP85 := Kd.R_putg HO_8.out ((ji77) : Int) x10_4
                    go_wp2_with (first | ((with_reducible refine gate_store (t := 3) (p := 77) rfl ?_); (try (rw [drewN_self wr]; generalize hq_ : World.drewN wr _ = wr; have n0_ := Aside0.mk (Kd.S_at hq_ HO_6.out); have n1_ := Aside0.mk (Kd.R_at hq_ HO_8.out); have n2_ := Aside0.mk (below_at hq_ HB.out); clear hq_ HO_6 HO_8 HB; have HO_6 := n0_; have HO_8 := n1_; have HB := n2_; clear n0_ n1_ n2_; (try (have HP85 := Kd.R_putg HO_8.out ((ji77) : Int) x10_4)); (try (obtain ⟨hx80n_0, hf80n_0⟩ := Kd.R_celln 0 HO_8.out ((ji77) : Int) (of_eq_true p80) (of_eq_true q80))))); refine store_event (t := 3) (p := 77) (v := ?vo_w86) (w1 := (wr.setCell ⟨go80, ((ji77) : Int).toNat, none⟩ (.int .i64 x10_4))) ?hg ?ho ?hn ?hr ?_; (case ho => rfl); (case hg => rfl); (case hn => rfl); (case hr => first | (go_simp; done) | (go_simp; rfl)); intro w86 hw; have hg : wr.grownBy w86 (some go80) := (by rw [hw]; exact HP85.2); have hp_ : Kd.R (Kd.int .i64) 3 w86 w.heap.size (fun _ => True) (.slice (some ⟨go80, 0, none⟩) x8_2.length co80) y147 := (by rw [hw, Ny147.out]; exact HP85.1); clear HP85; replace HO_6 := Aside0.mk (Kd.S_after (v := (.slice (some ⟨go80, 0, none⟩) x8_2.length co80)) (v1 := (.slice (some ⟨go80, 0, none⟩) x8_2.length co80)) (ok := (fun _ => True)) (by (with_reducible repeat (first | apply Kd.S_alloc | apply Kd.S_drewN | apply Kd.S_drew)); exact Kd.S_mono HO_6.out (fun _ hk => ⟨trivial, hk⟩)) hg (.inl rfl)); replace HO_8 := Aside0.mk (hp_); replace HB := Aside0.mk ((by rw [hw]; exact below_set (HB.out) GB80.out : Below w.heap.size w w86)); clear hg hw hp_) | ((with_reducible refine gate_builtin (b := .append) (xs := #[.tmp 90, .tmp 92]) rfl ?_); at_builtin; refine Kd.S_append (Kd.slice 3 (Kd.int .i64)) (w0 := w) w.heap.size rfl (.tmp 90) (.tmp 92) 83 84 (.slice none 0 0) 24 rfl Try.underlying83 info84 rfl (by decide) (by omega) u6 x6_1 y147 [.slice (some ⟨go80, 0, none⟩) x8_2.length co80] (fun _ => True) (fun k_ => some k_ = (.slice (some ⟨go80, 0, none⟩) x8_2.length co80 : Value).ownBlock) rfl rfl ?aP (fun k_ hk_ => ((Kd.R_mono (ok' := fun k_ => ((fun _ => True)) k_ ∧ some k_ ≠ (u6 : Value).ownBlock) (Kd.R_apart' (HO_8.out) (Kd.S_typed HO_6.out) (by decide)) (fun k_ hk => ⟨trivial, hk.2⟩))).1 k_ hk_.symm) ?aF ?aO ?aB ?aS ?aL ?_; (case aP => exact Kd.M_row (Kd.R_mono (Kd.R_tight rfl (Kd.R_mono (ok' := fun k_ => ((fun _ => True)) k_ ∧ some k_ ≠ (u6 : Value).ownBlock) (Kd.R_apart' (HO_8.out) (Kd.S_typed HO_6.out) (by decide)) (fun k_ hk => ⟨trivial, hk.2⟩))) (fun _ h_ => h_))); (case aB => exact (pxb HB)); (case aF => exact (fun _ _ => trivial)); (case aO => exact (by (with_reducible repeat (first | apply Kd.S_alloc | apply Kd.S_drewN | apply Kd.S_drew)); exact Kd.S_mono HO_6.out (fun k_ hk => ⟨trivial, fun e_ => hk.2 e_⟩))); (case aS => exact (below_size (pxb HB))); (case aL => have := LMc83.out; omega); intro v149 w87 ho hb hg hat; rw [← Ny148.out] at ho; have n0_ := Aside0.mk (hb); have n1_ := Aside0.mk (ho); clear HB; clear HO_6; clear HO_8; have HB := n0_; have HO150 := n1_; clear n0_ n1_; clear ho hb hg hat; obtain ⟨Ao88, co88, eo88⟩ := Kd.S_slice HO150.out; subst eo88) | (go_at_call 41; (with_reducible refine (diff_back.calls k4 a0 a1 _ _ y148 t151 _ ?side1 ?side2 A84.out).mono ?_); (case side1 => repeat (first | exact (Kd.S_reads' HO150.out).2.2 | (with_reducible refine Kd.C_alloc ?_ _) | (with_reducible refine Kd.C_drewN ?_ _) | (with_reducible refine Kd.C_drew ?_))); (case side2 => exact (Kd.S_reads' HO150.out).2.1); rintro e w89 ⟨v152, rfl, ho0, hb⟩; have HO153 := Aside0.mk (Kd.R_lower ho0 (below_size (pxb HB))); replace HO150 := Aside0.mk (Kd.S_below (by (with_reducible repeat (first | apply Kd.S_alloc | apply Kd.S_drewN | apply Kd.S_drew)); exact HO150.out) hb); replace HB := pxs HB hb; (try clear hb); (try clear hb2); (try clear hk); (try clear hi); (try clear ho0)))
                    repeat (go_quiet (fail); try go_wp2_with (first | ((with_reducible refine gate_store (t := 3) (p := 77) rfl ?_); (try (rw [drewN_self wr]; generalize hq_ : World.drewN wr _ = wr; have n0_ := Aside0.mk (Kd.S_at hq_ HO_6.out); have n1_ := Aside0.mk (Kd.R_at hq_ HO_8.out); have n2_ := Aside0.mk (below_at hq_ HB.out); clear hq_ HO_6 HO_8 HB; have HO_6 := n0_; have HO_8 := n1_; have HB := n2_; clear n0_ n1_ n2_; (try (have HP85 := Kd.R_putg HO_8.out ((ji77) : Int) x10_4)); (try (obtain ⟨hx80n_0, hf80n_0⟩ := Kd.R_celln 0 HO_8.out ((ji77) : Int) (of_eq_true p80) (of_eq_true q80))))); refine store_event (t := 3) (p := 77) (v := ?vo_w86) (w1 := (wr.setCell ⟨go80, ((ji77) : Int).toNat, none⟩ (.int .i64 x10_4))) ?hg ?ho ?hn ?hr ?_; (case ho => rfl); (case hg => rfl); (case hn => rfl); (case hr => first | (go_simp; done) | (go_simp; rfl)); intro w86 hw; have hg : wr.grownBy w86 (some go80) := (by rw [hw]; exact HP85.2); have hp_ : Kd.R (Kd.int .i64) 3 w86 w.heap.size (fun _ => True) (.slice (some ⟨go80, 0, none⟩) x8_2.length co80) y147 := (by rw [hw, Ny147.out]; exact HP85.1); clear HP85; replace HO_6 := Aside0.mk (Kd.S_after (v := (.slice (some ⟨go80, 0, none⟩) x8_2.length co80)) (v1 := (.slice (some ⟨go80, 0, none⟩) x8_2.length co80)) (ok := (fun _ => True)) (by (with_reducible repeat (first | apply Kd.S_alloc | apply Kd.S_drewN | apply Kd.S_drew)); exact Kd.S_mono HO_6.out (fun _ hk => ⟨trivial, hk⟩)) hg (.inl rfl)); replace HO_8 := Aside0.mk (hp_); replace HB := Aside0.mk ((by rw [hw]; exact below_set (HB.out) GB80.out : Below w.heap.size w w86)); clear hg hw hp_) | ((with_reducible refine gate_builtin (b := .append) (xs := #[.tmp 90, .tmp 92]) rfl ?_); at_builtin; refine Kd.S_append (Kd.slice 3 (Kd.int .i64)) (w0 := w) w.heap.size rfl (.tmp 90) (.tmp 92) 83 84 (.slice none 0 0) 24 rfl Try.underlying83 info84 rfl (by decide) (by omega) u6 x6_1 y147 [.slice (some ⟨go80, 0, none⟩) x8_2.length co80] (fun _ => True) (fun k_ => some k_ = (.slice (some ⟨go80, 0, none⟩) x8_2.length co80 : Value).ownBlock) rfl rfl ?aP (fun k_ hk_ => ((Kd.R_mono (ok' := fun k_ => ((fun _ => True)) k_ ∧ some k_ ≠ (u6 : Value).ownBlock) (Kd.R_apart' (HO_8.out) (Kd.S_typed HO_6.out) (by decide)) (fun k_ hk => ⟨trivial, hk.2⟩))).1 k_ hk_.symm) ?aF ?aO ?aB ?aS ?aL ?_; (case aP => exact Kd.M_row (Kd.R_mono (Kd.R_tight rfl (Kd.R_mono (ok' := fun k_ => ((fun _ => True)) k_ ∧ some k_ ≠ (u6 : Value).ownBlock) (Kd.R_apart' (HO_8.out) (Kd.S_typed HO_6.out) (by decide)) (fun k_ hk => ⟨trivial, hk.2⟩))) (fun _ h_ => h_))); (case aB => exact (pxb HB)); (case aF => exact (fun _ _ => trivial)); (case aO => exact (by (with_reducible repeat (first | apply Kd.S_alloc | apply Kd.S_drewN | apply Kd.S_drew)); exact Kd.S_mono HO_6.out (fun k_ hk => ⟨trivial, fun e_ => hk.2 e_⟩))); (case aS => exact (below_size (pxb HB))); (case aL => have := LMc83.out; omega); intro v149 w87 ho hb hg hat; rw [← Ny148.out] at ho; have n0_ := Aside0.mk (hb); have n1_ := Aside0.mk (ho); clear HB; clear HO_6; clear HO_8; have HB := n0_; have HO150 := n1_; clear n0_ n1_; clear ho hb hg hat; obtain ⟨Ao88, co88, eo88⟩ := Kd.S_slice HO150.out; subst eo88) | (go_at_call 41; (with_reducible refine (diff_back.calls k4 a0 a1 _ _ y148 t151 _ ?side1 ?side2 A84.out).mono ?_); (case side1 => repeat (first | exact (Kd.S_reads' HO150.out).2.2 | (with_reducible refine Kd.C_alloc ?_ _) | (with_reducible refine Kd.C_drewN ?_ _) | (with_reducible refine Kd.C_drew ?_))); (case side2 => exact (Kd.S_reads' HO150.out).2.1); rintro e w89 ⟨v152, rfl, ho0, hb⟩; have HO153 := Aside0.mk (Kd.R_lower ho0 (below_size (pxb HB))); replace HO150 := Aside0.mk (Kd.S_below (by (with_reducible repeat (first | apply Kd.S_alloc | apply Kd.S_drewN | apply Kd.S_drew)); exact HO150.out) hb); replace HB := pxs HB hb; (try clear hb); (try clear hb2); (try clear hk); (try clear hi); (try clear ho0))))
                    go_ret2
                    exact ⟨_, by first | rfl | (simp [errW_none, errW_some] <;> rfl) | (simp only [← hji4, ← hji77]; first | rfl | (simp [errW_none, errW_some] <;> rfl)) | (simp [*, errW_none, errW_some] <;> rfl), pxr HO153, pxb HB⟩
                   ·rw [if_neg c83] at H
                    exact absurd H (by simp)
                  ·rw [if_neg c82] at H
                   have c82b0 : decide ((a1.size : Int) ≤ x11_4) = false := decide_eq_false c82
                   clear c82
                   have H' := Aside0.mk H
                   clear H
                   have p80 : 0 ≤ ((ji77) : Int) := pxd
                   have q80 : ((ji77) : Int) < ((x8_2.length : Int) : Int) := pxd
                   obtain ⟨go80, co80, eo80, gb80, gl80, cl80, HG80⟩ := Kd.R_form HO_8.out (by omega)
                   (first | cases eo80 | (injection eo80 with ea_ en_ ec_; (first | subst ea_ | (injection ea_ with ea_; subst ea_)); subst ec_; clear en_))
                   have GB80 := Aside0.mk gb80
                   have GG80 := Aside0.mk HG80
                   clear gb80 gl80 HG80
                   obtain ⟨hx80_0, hf80_0⟩ := Kd.R_celln 0 HO_8.out ((ji77) : Int) p80 q80
                   replace p80 := eq_true p80
                   replace q80 := eq_true q80
                   have HP90 := Kd.R_putg HO_8.out ((ji77) : Int) x10_4
                   go_wp2_with (first | ((with_reducible refine gate_store (t := 3) (p := 77) rfl ?_); (try (rw [drewN_self wr]; generalize hq_ : World.drewN wr _ = wr; have n0_ := Aside0.mk (Kd.S_at hq_ HO_6.out); have n1_ := Aside0.mk (Kd.R_at hq_ HO_8.out); have n2_ := Aside0.mk (below_at hq_ HB.out); clear hq_ HO_6 HO_8 HB; have HO_6 := n0_; have HO_8 := n1_; have HB := n2_; clear n0_ n1_ n2_; (try (have HP90 := Kd.R_putg HO_8.out ((ji77) : Int) x10_4)); (try (obtain ⟨hx80n_0, hf80n_0⟩ := Kd.R_celln 0 HO_8.out ((ji77) : Int) (of_eq_true p80) (of_eq_true q80))))); refine store_event (t := 3) (p := 77) (v := ?vo_w91) (w1 := (wr.setCell ⟨go80, ((ji77) : Int).toNat, none⟩ (.int .i64 x10_4))) ?hg ?ho ?hn ?hr ?_; (case ho => rfl); (case hg => rfl); (case hn => rfl); (case hr => first | (go_simp; done) | (go_simp; rfl)); intro w91 hw; have hg : wr.grownBy w91 (some go80) := (by rw [hw]; exact HP90.2); have hp_ : Kd.R (Kd.int .i64) 3 w91 w.heap.size (fun _ => True) (.slice (some ⟨go80, 0, none⟩) x8_2.length co80) y147 := (by rw [hw, Ny147.out]; exact HP90.1); clear HP90; replace HO_6 := Aside0.mk (Kd.S_after (v := (.slice (some ⟨go80, 0, none⟩) x8_2.length co80)) (v1 := (.slice (some ⟨go80, 0, none⟩) x8_2.length co80)) (ok := (fun _ => True)) (by (with_reducible repeat (first | apply Kd.S_alloc | apply Kd.S_drewN | apply Kd.S_drew)); exact Kd.S_mono HO_6.out (fun _ hk => ⟨trivial, hk⟩)) hg (.inl rfl)); replace HO_8 := Aside0.mk (hp_); replace HB := Aside0.mk ((by rw [hw]; exact below_set (HB.out) GB80.out : Below w.heap.size w w91)); clear hg hw hp_))
                   repeat (go_quiet (fail); try go_wp2_with (first | ((with_reducible refine gate_store (t := 3) (p := 77) rfl ?_); (try (rw [drewN_self wr]; generalize hq_ : World.drewN wr _ = wr; have n0_ := Aside0.mk (Kd.S_at hq_ HO_6.out); have n1_ := Aside0.mk (Kd.R_at hq_ HO_8.out); have n2_ := Aside0.mk (below_at hq_ HB.out); clear hq_ HO_6 HO_8 HB; have HO_6 := n0_; have HO_8 := n1_; have HB := n2_; clear n0_ n1_ n2_; (try (have HP90 := Kd.R_putg HO_8.out ((ji77) : Int) x10_4)); (try (obtain ⟨hx80n_0, hf80n_0⟩ := Kd.R_celln 0 HO_8.out ((ji77) : Int) (of_eq_true p80) (of_eq_true q80))))); refine store_event (t := 3) (p := 77) (v := ?vo_w91) (w1 := (wr.setCell ⟨go80, ((ji77) : Int).toNat, none⟩ (.int .i64 x10_4))) ?hg ?ho ?hn ?hr ?_; (case ho => rfl); (case hg => rfl); (case hn => rfl); (case hr => first | (go_simp; done) | (go_simp; rfl)); intro w91 hw; have hg : wr.grownBy w91 (some go80) := (by rw [hw]; exact HP90.2); have hp_ : Kd.R (Kd.int .i64) 3 w91 w.heap.size (fun _ => True) (.slice (some ⟨go80, 0, none⟩) x8_2.length co80) y147 := (by rw [hw, Ny147.out]; exact HP90.1); clear HP90; replace HO_6 := Aside0.mk (Kd.S_after (v := (.slice (some ⟨go80, 0, none⟩) x8_2.length co80)) (v1 := (.slice (some ⟨go80, 0, none⟩) x8_2.length co80)) (ok := (fun _ => True)) (by (with_reducible repeat (first | apply Kd.S_alloc | apply Kd.S_drewN | apply Kd.S_drew)); exact Kd.S_mono HO_6.out (fun _ hk => ⟨trivial, hk⟩)) hg (.inl rfl)); replace HO_8 := Aside0.mk (hp_); replace HB := Aside0.mk ((by rw [hw]; exact below_set (HB.out) GB80.out : Below w.heap.size w w91)); clear hg hw hp_)))
                   go_roundg k4
                   case measure => have := HK1.out; have := HK2.out; have := HJ9.out; have := HK4.out; omega
                   case rel => exact ⟨(y147), (wrap64 (x9_2 + 2)), (by first | rfl | (simp; done) | (simp [*]; done)), H', ⟨by have := HK1.out; have := HK2.out; have := HJ9.out; have := HK4.out; omega⟩, ⟨by (with_reducible repeat (first | apply Kd.S_alloc | apply Kd.S_drewN | apply Kd.S_drew)); exact Kd.S_mono HO_6.out (fun _ hk => hk.2)⟩, ⟨pxr HO_8⟩, ⟨pxb HB⟩⟩
                 ·rw [if_neg c81] at H
                  have c81b0 : decide ((a0.size : Int) ≤ x10_4) = false := decide_eq_false c81
                  clear c81
                  have H' := Aside0.mk H
                  clear H
                  have p80 : 0 ≤ ((ji77) : Int) := pxd
                  have q80 : ((ji77) : Int) < ((x8_2.length : Int) : Int) := pxd
                  obtain ⟨go80, co80, eo80, gb80, gl80, cl80, HG80⟩ := Kd.R_form HO_8.out (by omega)
                  (first | cases eo80 | (injection eo80 with ea_ en_ ec_; (first | subst ea_ | (injection ea_ with ea_; subst ea_)); subst ec_; clear en_))
                  have GB80 := Aside0.mk gb80
                  have GG80 := Aside0.mk HG80
                  clear gb80 gl80 HG80
                  obtain ⟨hx80_0, hf80_0⟩ := Kd.R_celln 0 HO_8.out ((ji77) : Int) p80 q80
                  replace p80 := eq_true p80
                  replace q80 := eq_true q80
                  have HP92 := Kd.R_putg HO_8.out ((ji77) : Int) x10_4
                  go_wp2_with (first | ((with_reducible refine gate_store (t := 3) (p := 77) rfl ?_); (try (rw [drewN_self wr]; generalize hq_ : World.drewN wr _ = wr; have n0_ := Aside0.mk (Kd.S_at hq_ HO_6.out); have n1_ := Aside0.mk (Kd.R_at hq_ HO_8.out); have n2_ := Aside0.mk (below_at hq_ HB.out); clear hq_ HO_6 HO_8 HB; have HO_6 := n0_; have HO_8 := n1_; have HB := n2_; clear n0_ n1_ n2_; (try (have HP92 := Kd.R_putg HO_8.out ((ji77) : Int) x10_4)); (try (obtain ⟨hx80n_0, hf80n_0⟩ := Kd.R_celln 0 HO_8.out ((ji77) : Int) (of_eq_true p80) (of_eq_true q80))))); refine store_event (t := 3) (p := 77) (v := ?vo_w93) (w1 := (wr.setCell ⟨go80, ((ji77) : Int).toNat, none⟩ (.int .i64 x10_4))) ?hg ?ho ?hn ?hr ?_; (case ho => rfl); (case hg => rfl); (case hn => rfl); (case hr => first | (go_simp; done) | (go_simp; rfl)); intro w93 hw; have hg : wr.grownBy w93 (some go80) := (by rw [hw]; exact HP92.2); have hp_ : Kd.R (Kd.int .i64) 3 w93 w.heap.size (fun _ => True) (.slice (some ⟨go80, 0, none⟩) x8_2.length co80) y147 := (by rw [hw, Ny147.out]; exact HP92.1); clear HP92; replace HO_6 := Aside0.mk (Kd.S_after (v := (.slice (some ⟨go80, 0, none⟩) x8_2.length co80)) (v1 := (.slice (some ⟨go80, 0, none⟩) x8_2.length co80)) (ok := (fun _ => True)) (by (with_reducible repeat (first | apply Kd.S_alloc | apply Kd.S_drewN | apply Kd.S_drew)); exact Kd.S_mono HO_6.out (fun _ hk => ⟨trivial, hk⟩)) hg (.inl rfl)); replace HO_8 := Aside0.mk (hp_); replace HB := Aside0.mk ((by rw [hw]; exact below_set (HB.out) GB80.out : Below w.heap.size w w93)); clear hg hw hp_))
                  repeat (go_quiet (fail); try go_wp2_with (first | ((with_reducible refine gate_store (t := 3) (p := 77) rfl ?_); (try (rw [drewN_self wr]; generalize hq_ : World.drewN wr _ = wr; have n0_ := Aside0.mk (Kd.S_at hq_ HO_6.out); have n1_ := Aside0.mk (Kd.R_at hq_ HO_8.out); have n2_ := Aside0.mk (below_at hq_ HB.out); clear hq_ HO_6 HO_8 HB; have HO_6 := n0_; have HO_8 := n1_; have HB := n2_; clear n0_ n1_ n2_; (try (have HP92 := Kd.R_putg HO_8.out ((ji77) : Int) x10_4)); (try (obtain ⟨hx80n_0, hf80n_0⟩ := Kd.R_celln 0 HO_8.out ((ji77) : Int) (of_eq_true p80) (of_eq_true q80))))); refine store_event (t := 3) (p := 77) (v := ?vo_w93) (w1 := (wr.setCell ⟨go80, ((ji77) : Int).toNat, none⟩ (.int .i64 x10_4))) ?hg ?ho ?hn ?hr ?_; (case ho => rfl); (case hg => rfl); (case hn => rfl); (case hr => first | (go_simp; done) | (go_simp; rfl)); intro w93 hw; have hg : wr.grownBy w93 (some go80) := (by rw [hw]; exact HP92.2); have hp_ : Kd.R (Kd.int .i64) 3 w93 w.heap.size (fun _ => True) (.slice (some ⟨go80, 0, none⟩) x8_2.length co80) y147 := (by rw [hw, Ny147.out]; exact HP92.1); clear HP92; replace HO_6 := Aside0.mk (Kd.S_after (v := (.slice (some ⟨go80, 0, none⟩) x8_2.length co80)) (v1 := (.slice (some ⟨go80, 0, none⟩) x8_2.length co80)) (ok := (fun _ => True)) (by (with_reducible repeat (first | apply Kd.S_alloc | apply Kd.S_drewN | apply Kd.S_drew)); exact Kd.S_mono HO_6.out (fun _ hk => ⟨trivial, hk⟩)) hg (.inl rfl)); replace HO_8 := Aside0.mk (hp_); replace HB := Aside0.mk ((by rw [hw]; exact below_set (HB.out) GB80.out : Below w.heap.size w w93)); clear hg hw hp_)))
                  go_roundg k4
                  case measure => have := HK1.out; have := HK2.out; have := HJ9.out; have := HK4.out; omega
                  case rel => exact ⟨(y147), (wrap64 (x9_2 + 2)), (by first | rfl | (simp; done) | (simp [*]; done)), H', ⟨by have := HK1.out; have := HK2.out; have := HJ9.out; have := HK4.out; omega⟩, ⟨by (with_reducible repeat (first | apply Kd.S_alloc | apply Kd.S_drewN | apply Kd.S_drew)); exact Kd.S_mono HO_6.out (fun _ hk => hk.2)⟩, ⟨pxr HO_8⟩, ⟨pxb HB⟩⟩
                ·rw [if_neg c79] at H
                 exact absurd H (by simp)
               ·rw [if_neg c78] at H
                exact absurd H (by simp)
             ·rw [if_neg c17] at H
              have c17b0 : decide (0 ≤ x10_4) = false := decide_eq_false c17
              clear c17
              obtain ⟨ji94, hji94⟩ : ∃ j_ : Int, (wrap64 ((wrap64 (x9_2 + x7_1)) + 1)) = j_ := ⟨_, rfl⟩
              replace H : (if 0 ≤ (ji94) then (if (ji94) < (x8_2.length : Int) then ((some (x8_2.set ((ji94) : Int).toNat x10_4 : List Int)).bind fun y154 => (if x10_4 ≥ (a0.size : Int) then (if x11_4 ≥ (a1.size : Int) then (if x6_1.length < 5864062014805 then ((diff_back.f k4 a0 a1 (x6_1 ++ [y154])).bind fun t158 => (some (t158, true))) else (none)) else (diff_common.l1 k4 a0 a1 x6_1 x7_1 y154 (wrap64 (x9_2 + 2)))) else (diff_common.l1 k4 a0 a1 x6_1 x7_1 y154 (wrap64 (x9_2 + 2))))) else (none)) else (none)) = some (r1, r2) := by first | (rw [hji94] at H; exact H) | (simp only [hji94] at H ⊢; exact H)
              have hji94w : (IntKind.i64.wrap ((wrap64 (x9_2 + x7_1)) + 1)) = ji94 := (i64_w _).trans hji94
              by_cases c95 : 0 ≤ (ji94)
              ·rw [if_pos c95] at H
               have c95b0 : decide (0 ≤ (ji94)) = true := decide_eq_true c95
               clear c95
               by_cases c96 : (ji94) < (x8_2.length : Int)
               ·rw [if_pos c96] at H
                have c96b0 : decide ((ji94) < (x8_2.length : Int)) = true := decide_eq_true c96
                clear c96
                obtain ⟨y154, hy154⟩ : ∃ y_ : List Int, y_ = (x8_2.set ((ji94) : Int).toNat x10_4) := ⟨_, rfl⟩
                replace H : (if x10_4 ≥ (a0.size : Int) then (if x11_4 ≥ (a1.size : Int) then (if x6_1.length < 5864062014805 then ((diff_back.f k4 a0 a1 (x6_1 ++ [y154])).bind fun t158 => (some (t158, true))) else (none)) else (diff_common.l1 k4 a0 a1 x6_1 x7_1 y154 (wrap64 (x9_2 + 2)))) else (diff_common.l1 k4 a0 a1 x6_1 x7_1 y154 (wrap64 (x9_2 + 2)))) = some (r1, r2) := by first | (rw [hy154]; with_reducible exact H) | (have H2_ := (Option.bind_some _ _).symm.trans H; rw [hy154]; with_reducible exact H2_) | (have H2_ := (Option.bind_some _ _).symm.trans H; with_reducible exact H2_) | with_reducible exact H | (rw [hy154]; exact H) | exact H
                have Ny154 := Aside0.mk hy154
                clear hy154
                by_cases c98 : x10_4 ≥ (a0.size : Int)
                ·rw [if_pos c98] at H
                 have c98b0 : decide ((a0.size : Int) ≤ x10_4) = true := decide_eq_true c98
                 clear c98
                 by_cases c99 : x11_4 ≥ (a1.size : Int)
                 ·rw [if_pos c99] at H
                  have c99b0 : decide ((a1.size : Int) ≤ x11_4) = true := decide_eq_true c99
                  clear c99
                  by_cases c100 : x6_1.length < 5864062014805
                  ·rw [if_pos c100] at H
                   have LMc100 := Aside0.mk c100
                   clear c100
                   obtain ⟨y155, hy155⟩ : ∃ y_ : List (List Int), y_ = (x6_1 ++ [y154]) := ⟨_, rfl⟩
                   replace H : ((diff_back.f k4 a0 a1 y155).bind fun t158 => (some (t158, true))) = some (r1, r2) := by first | (rw [hy155]; with_reducible exact H) | (have H2_ := (Option.bind_some _ _).symm.trans H; rw [hy155]; with_reducible exact H2_) | (have H2_ := (Option.bind_some _ _).symm.trans H; with_reducible exact H2_) | with_reducible exact H | (rw [hy155]; exact H) | exact H
                   have Ny155 := Aside0.mk hy155
                   clear hy155
                   replace H := Option.bind_eq_some_iff.mp H
                   obtain ⟨t158, A1010, H⟩ := H
                   replace H : (some (t158, true)) = some (r1, r2) := H
                   have A101 := Aside0.mk A1010
                   clear A1010
                   simp only [Option.some.injEq, Prod.mk.injEq] at H
                   obtain ⟨rfl, rfl⟩ := H
                   have p97 : 0 ≤ ((ji94) : Int) := pxd
                   have q97 : ((ji94) : Int) < ((x8_2.length : Int) : Int) := pxd
                   obtain ⟨go97, co97, eo97, gb97, gl97, cl97, HG97⟩ := Kd.R_form HO_8.out (by omega)
                   (first | cases eo97 | (injection eo97 with ea_ en_ ec_; (first | subst ea_ | (injection ea_ with ea_; subst ea_)); subst ec_; clear en_))
                   have GB97 := Aside0.mk gb97
                   have GG97 := Aside0.mk HG97
                   clear gb97 gl97 HG97
                   obtain ⟨hx97_0, hf97_0⟩ := Kd.R_celln 0 HO_8.out ((ji94) : Int) p97 q97
                   replace p97 := eq_true p97
                   replace q97 := eq_true q97
                   have HP102 := Kd.R_putg HO_8.out ((ji94) : Int) x10_4
                   go_wp2_with (first | ((with_reducible refine gate_store (t := 3) (p := 77) rfl ?_); (try (rw [drewN_self wr]; generalize hq_ : World.drewN wr _ = wr; have n0_ := Aside0.mk (Kd.S_at hq_ HO_6.out); have n1_ := Aside0.mk (Kd.R_at hq_ HO_8.out); have n2_ := Aside0.mk (below_at hq_ HB.out); clear hq_ HO_6 HO_8 HB; have HO_6 := n0_; have HO_8 := n1_; have HB := n2_; clear n0_ n1_ n2_; (try (have HP102 := Kd.R_putg HO_8.out ((ji94) : Int) x10_4)); (try (obtain ⟨hx97n_0, hf97n_0⟩ := Kd.R_celln 0 HO_8.out ((ji94) : Int) (of_eq_true p97) (of_eq_true q97))))); refine store_event (t := 3) (p := 77) (v := ?vo_w103) (w1 := (wr.setCell ⟨go97, ((ji94) : Int).toNat, none⟩ (.int .i64 x10_4))) ?hg ?ho ?hn ?hr ?_; (case ho => rfl); (case hg => rfl); (case hn => rfl); (case hr => first | (go_simp; done) | (go_simp; rfl)); intro w103 hw; have hg : wr.grownBy w103 (some go97) := (by rw [hw]; exact HP102.2); have hp_ : Kd.R (Kd.int .i64) 3 w103 w.heap.size (fun _ => True) (.slice (some ⟨go97, 0, none⟩) x8_2.length co97) y154 := (by rw [hw, Ny154.out]; exact HP102.1); clear HP102; replace HO_6 := Aside0.mk (Kd.S_after (v := (.slice (some ⟨go97, 0, none⟩) x8_2.length co97)) (v1 := (.slice (some ⟨go97, 0, none⟩) x8_2.length co97)) (ok := (fun _ => True)) (by (with_reducible repeat (first | apply Kd.S_alloc | apply Kd.S_drewN | apply Kd.S_drew)); exact Kd.S_mono HO_6.out (fun _ hk => ⟨trivial, hk⟩)) hg (.inl rfl)); replace HO_8 := Aside0.mk (hp_); replace HB := Aside0.mk ((by rw [hw]; exact below_set (HB.out) GB97.out : Below w.heap.size w w103)); clear hg hw hp_) | ((with_reducible refine gate_builtin (b := .append) (xs := #[.tmp 90, .tmp 92]) rfl ?_); at_builtin; refine Kd.S_append (Kd.slice 3 (Kd.int .i64)) (w0 := w) w.heap.size rfl (.tmp 90) (.tmp 92) 83 84 (.slice none 0 0) 24 rfl Try.underlying83 info84 rfl (by decide) (by omega) u6 x6_1 y154 [.slice (some ⟨go97, 0, none⟩) x8_2.length co97] (fun _ => True) (fun k_ => some k_ = (.slice (some ⟨go97, 0, none⟩) x8_2.length co97 : Value).ownBlock) rfl rfl ?aP (fun k_ hk_ => ((Kd.R_mono (ok' := fun k_ => ((fun _ => True)) k_ ∧ some k_ ≠ (u6 : Value).ownBlock) (Kd.R_apart' (HO_8.out) (Kd.S_typed HO_6.out) (by decide)) (fun k_ hk => ⟨trivial, hk.2⟩))).1 k_ hk_.symm) ?aF ?aO ?aB ?aS ?aL ?_; (case aP => exact Kd.M_row (Kd.R_mono (Kd.R_tight rfl (Kd.R_mono (ok' := fun k_ => ((fun _ => True)) k_ ∧ some k_ ≠ (u6 : Value).ownBlock) (Kd.R_apart' (HO_8.out) (Kd.S_typed HO_6.out) (by decide)) (fun k_ hk => ⟨trivial, hk.2⟩))) (fun _ h_ => h_))); (case aB => exact (pxb HB)); (case aF => exact (fun _ _ => trivial)); (case aO => exact (by (with_reducible repeat (first | apply Kd.S_alloc | apply Kd.S_drewN | apply Kd.S_drew)); exact Kd.S_mono HO_6.out (fun k_ hk => ⟨trivial, fun e_ => hk.2 e_⟩))); (case aS => exact (below_size (pxb HB))); (case aL => have := LMc100.out; omega); intro v156 w104 ho hb hg hat; rw [← Ny155.out] at ho; have n0_ := Aside0.mk (hb); have n1_ := Aside0.mk (ho); clear HB; clear HO_6; clear HO_8; have HB := n0_; have HO157 := n1_; clear n0_ n1_; clear ho hb hg hat; obtain ⟨Ao105, co105, eo105⟩ := Kd.S_slice HO157.out; subst eo105) | (go_at_call 41; (with_reducible refine (diff_back.calls k4 a0 a1 _ _ y155 t158 _ ?side1 ?side2 A101.out).mono ?_); (case side1 => repeat (first | exact (Kd.S_reads' HO157.out).2.2 | (with_reducible refine Kd.C_alloc ?_ _) | (with_reducible refine Kd.C_drewN ?_ _) | (with_reducible refine Kd.C_drew ?_))); (case side2 => exact (Kd.S_reads' HO157.out).2.1); rintro e w106 ⟨v159, rfl, ho0, hb⟩; have HO160 := Aside0.mk (Kd.R_lower ho0 (below_size (pxb HB))); replace HO157 := Aside0.mk (Kd.S_below (by (with_reducible repeat (first | apply Kd.S_alloc | apply Kd.S_drewN | apply Kd.S_drew)); exact HO157.out) hb); replace HB := pxs HB hb; (try clear hb); (try clear hb2); (try clear hk); (try clear hi); (try clear ho0)))
                   repeat (go_quiet (fail); try go_wp2_with (first | ((with_reducible refine gate_store (t := 3) (p := 77) rfl ?_); (try (rw [drewN_self wr]; generalize hq_ : World.drewN wr _ = wr; have n0_ := Aside0.mk (Kd.S_at hq_ HO_6.out); have n1_ := Aside0.mk (Kd.R_at hq_ HO_8.out); have n2_ := Aside0.mk (below_at hq_ HB.out); clear hq_ HO_6 HO_8 HB; have HO_6 := n0_; have HO_8 := n1_; have HB := n2_; clear n0_ n1_ n2_; (try (have HP102 := Kd.R_putg HO_8.out ((ji94) : Int) x10_4)); (try (obtain ⟨hx97n_0, hf97n_0⟩ := Kd.R_celln 0 HO_8.out ((ji94) : Int) (of_eq_true p97) (of_eq_true q97))))); refine store_event (t := 3) (p := 77) (v := ?vo_w103) (w1 := (wr.setCell ⟨go97, ((ji94) : Int).toNat, none⟩ (.int .i64 x10_4))) ?hg ?ho ?hn ?hr ?_; (case ho => rfl); (case hg => rfl); (case hn => rfl); (case hr => first | (go_simp; done) | (go_simp; rfl)); intro w103 hw; have hg : wr.grownBy w103 (some go97) := (by rw [hw]; exact HP102.2); have hp_ : Kd.R (Kd.int .i64) 3 w103 w.heap.size (fun _ => True) (.slice (some ⟨go97, 0, none⟩) x8_2.length co97) y154 := (by rw [hw, Ny154.out]; exact HP102.1); clear HP102; replace HO_6 := Aside0.mk (Kd.S_after (v := (.slice (some ⟨go97, 0, none⟩) x8_2.length co97)) (v1 := (.slice (some ⟨go97, 0, none⟩) x8_2.length co97)) (ok := (fun _ => True)) (by (with_reducible repeat (first | apply Kd.S_alloc | apply Kd.S_drewN | apply Kd.S_drew)); exact Kd.S_mono HO_6.out (fun _ hk => ⟨trivial, hk⟩)) hg (.inl rfl)); replace HO_8 := Aside0.mk (hp_); replace HB := Aside0.mk ((by rw [hw]; exact below_set (HB.out) GB97.out : Below w.heap.size w w103)); clear hg hw hp_) | ((with_reducible refine gate_builtin (b := .append) (xs := #[.tmp 90, .tmp 92]) rfl ?_); at_builtin; refine Kd.S_append (Kd.slice 3 (Kd.int .i64)) (w0 := w) w.heap.size rfl (.tmp 90) (.tmp 92) 83 84 (.slice none 0 0) 24 rfl Try.underlying83 info84 rfl (by decide) (by omega) u6 x6_1 y154 [.slice (some ⟨go97, 0, none⟩) x8_2.length co97] (fun _ => True) (fun k_ => some k_ = (.slice (some ⟨go97, 0, none⟩) x8_2.length co97 : Value).ownBlock) rfl rfl ?aP (fun k_ hk_ => ((Kd.R_mono (ok' := fun k_ => ((fun _ => True)) k_ ∧ some k_ ≠ (u6 : Value).ownBlock) (Kd.R_apart' (HO_8.out) (Kd.S_typed HO_6.out) (by decide)) (fun k_ hk => ⟨trivial, hk.2⟩))).1 k_ hk_.symm) ?aF ?aO ?aB ?aS ?aL ?_; (case aP => exact Kd.M_row (Kd.R_mono (Kd.R_tight rfl (Kd.R_mono (ok' := fun k_ => ((fun _ => True)) k_ ∧ some k_ ≠ (u6 : Value).ownBlock) (Kd.R_apart' (HO_8.out) (Kd.S_typed HO_6.out) (by decide)) (fun k_ hk => ⟨trivial, hk.2⟩))) (fun _ h_ => h_))); (case aB => exact (pxb HB)); (case aF => exact (fun _ _ => trivial)); (case aO => exact (by (with_reducible repeat (first | apply Kd.S_alloc | apply Kd.S_drewN | apply Kd.S_drew)); exact Kd.S_mono HO_6.out (fun k_ hk => ⟨trivial, fun e_ => hk.2 e_⟩))); (case aS => exact (below_size (pxb HB))); (case aL => have := LMc100.out; omega); intro v156 w104 ho hb hg hat; rw [← Ny155.out] at ho; have n0_ := Aside0.mk (hb); have n1_ := Aside0.mk (ho); clear HB; clear HO_6; clear HO_8; have HB := n0_; have HO157 := n1_; clear n0_ n1_; clear ho hb hg hat; obtain ⟨Ao105, co105, eo105⟩ := Kd.S_slice HO157.out; subst eo105) | (go_at_call 41; (with_reducible refine (diff_back.calls k4 a0 a1 _ _ y155 t158 _ ?side1 ?side2 A101.out).mono ?_); (case side1 => repeat (first | exact (Kd.S_reads' HO157.out).2.2 | (with_reducible refine Kd.C_alloc ?_ _) | (with_reducible refine Kd.C_drewN ?_ _) | (with_reducible refine Kd.C_drew ?_))); (case side2 => exact (Kd.S_reads' HO157.out).2.1); rintro e w106 ⟨v159, rfl, ho0, hb⟩; have HO160 := Aside0.mk (Kd.R_lower ho0 (below_size (pxb HB))); replace HO157 := Aside0.mk (Kd.S_below (by (with_reducible repeat (first | apply Kd.S_alloc | apply Kd.S_drewN | apply Kd.S_drew)); exact HO157.out) hb); replace HB := pxs HB hb; (try clear hb); (try clear hb2); (try clear hk); (try clear hi); (try clear ho0))))
                   go_ret2
                   exact ⟨_, by first | rfl | (simp [errW_none, errW_some] <;> rfl) | (simp only [← hji4, ← hji94]; first | rfl | (simp [errW_none, errW_some] <;> rfl)) | (simp [*, errW_none, errW_some] <;> rfl), pxr HO160, pxb HB⟩
                  ·rw [if_neg c100] at H
                   exact absurd H (by simp)
                 ·rw [if_neg c99] at H
                  have c99b0 : decide ((a1.size : Int) ≤ x11_4) = false := decide_eq_false c99
                  clear c99
                  have H' := Aside0.mk H
                  clear H
                  have p97 : 0 ≤ ((ji94) : Int) := pxd
                  have q97 : ((ji94) : Int) < ((x8_2.length : Int) : Int) := pxd
                  obtain ⟨go97, co97, eo97, gb97, gl97, cl97, HG97⟩ := Kd.R_form HO_8.out (by omega)
                  (first | cases eo97 | (injection eo97 with ea_ en_ ec_; (first | subst ea_ | (injection ea_ with ea_; subst ea_)); subst ec_; clear en_))
                  have GB97 := Aside0.mk gb97
                  have GG97 := Aside0.mk HG97
                  clear gb97 gl97 HG97
                  obtain ⟨hx97_0, hf97_0⟩ := Kd.R_celln 0 HO_8.out ((ji94) : Int) p97 q97
                  replace p97 := eq_true p97
                  replace q97 := eq_true q97
                  have HP107 := Kd.R_putg HO_8.out ((ji94) : Int) x10_4
                  go_wp2_with (first | ((with_reducible refine gate_store (t := 3) (p := 77) rfl ?_); (try (rw [drewN_self wr]; generalize hq_ : World.drewN wr _ = wr; have n0_ := Aside0.mk (Kd.S_at hq_ HO_6.out); have n1_ := Aside0.mk (Kd.R_at hq_ HO_8.out); have n2_ := Aside0.mk (below_at hq_ HB.out); clear hq_ HO_6 HO_8 HB; have HO_6 := n0_; have HO_8 := n1_; have HB := n2_; clear n0_ n1_ n2_; (try (have HP107 := Kd.R_putg HO_8.out ((ji94) : Int) x10_4)); (try (obtain ⟨hx97n_0, hf97n_0⟩ := Kd.R_celln 0 HO_8.out ((ji94) : Int) (of_eq_true p97) (of_eq_true q97))))); refine store_event (t := 3) (p := 77) (v := ?vo_w108) (w1 := (wr.setCell ⟨go97, ((ji94) : Int).toNat, none⟩ (.int .i64 x10_4))) ?hg ?ho ?hn ?hr ?_; (case ho => rfl); (case hg => rfl); (case hn => rfl); (case hr => first | (go_simp; done) | (go_simp; rfl)); intro w108 hw; have hg : wr.grownBy w108 (some go97) := (by rw [hw]; exact HP107.2); have hp_ : Kd.R (Kd.int .i64) 3 w108 w.heap.size (fun _ => True) (.slice (some ⟨go97, 0, none⟩) x8_2.length co97) y154 := (by rw [hw, Ny154.out]; exact HP107.1); clear HP107; replace HO_6 := Aside0.mk (Kd.S_after (v := (.slice (some ⟨go97, 0, none⟩) x8_2.length co97)) (v1 := (.slice (some ⟨go97, 0, none⟩) x8_2.length co97)) (ok := (fun _ => True)) (by (with_reducible repeat (first | apply Kd.S_alloc | apply Kd.S_drewN | apply Kd.S_drew)); exact Kd.S_mono HO_6.out (fun _ hk => ⟨trivial, hk⟩)) hg (.inl rfl)); replace HO_8 := Aside0.mk (hp_); replace HB := Aside0.mk ((by rw [hw]; exact below_set (HB.out) GB97.out : Below w.heap.size w w108)); clear hg hw hp_))
                  repeat (go_quiet (fail); try go_wp2_with (first | ((with_reducible refine gate_store (t := 3) (p := 77) rfl ?_); (try (rw [drewN_self wr]; generalize hq_ : World.drewN wr _ = wr; have n0_ := Aside0.mk (Kd.S_at hq_ HO_6.out); have n1_ := Aside0.mk (Kd.R_at hq_ HO_8.out); have n2_ := Aside0.mk (below_at hq_ HB.out); clear hq_ HO_6 HO_8 HB; have HO_6 := n0_; have HO_8 := n1_; have HB := n2_; clear n0_ n1_ n2_; (try (have HP107 := Kd.R_putg HO_8.out ((ji94) : Int) x10_4)); (try (obtain ⟨hx97n_0, hf97n_0⟩ := Kd.R_celln 0 HO_8.out ((ji94) : Int) (of_eq_true p97) (of_eq_true q97))))); refine store_event (t := 3) (p := 77) (v := ?vo_w108) (w1 := (wr.setCell ⟨go97, ((ji94) : Int).toNat, none⟩ (.int .i64 x10_4))) ?hg ?ho ?hn ?hr ?_; (case ho => rfl); (case hg => rfl); (case hn => rfl); (case hr => first | (go_simp; done) | (go_simp; rfl)); intro w108 hw; have hg : wr.grownBy w108 (some go97) := (by rw [hw]; exact HP107.2); have hp_ : Kd.R (Kd.int .i64) 3 w108 w.heap.size (fun _ => True) (.slice (some ⟨go97, 0, none⟩) x8_2.length co97) y154 := (by rw [hw, Ny154.out]; exact HP107.1); clear HP107; replace HO_6 := Aside0.mk (Kd.S_after (v := (.slice (some ⟨go97, 0, none⟩) x8_2.length co97)) (v1 := (.slice (some ⟨go97, 0, none⟩) x8_2.length co97)) (ok := (fun _ => True)) (by (with_reducible repeat (first | apply Kd.S_alloc | apply Kd.S_drewN | apply Kd.S_drew)); exact Kd.S_mono HO_6.out (fun _ hk => ⟨trivial, hk⟩)) hg (.inl rfl)); replace HO_8 := Aside0.mk (hp_); replace HB := Aside0.mk ((by rw [hw]; exact below_set (HB.out) GB97.out : Below w.heap.size w w108)); clear hg hw hp_)))
                  go_roundg k4
                  case measure => have := HK1.out; have := HK2.out; have := HJ9.out; have := HK4.out; omega
                  case rel => exact ⟨(y154), (wrap64 (x9_2 + 2)), (by first | rfl | (simp; done) | (simp [*]; done)), H', ⟨by have := HK1.out; have := HK2.out; have := HJ9.out; have := HK4.out; omega⟩, ⟨by (with_reducible repeat (first | apply Kd.S_alloc | apply Kd.S_drewN | apply Kd.S_drew)); exact Kd.S_mono HO_6.out (fun _ hk => hk.2)⟩, ⟨pxr HO_8⟩, ⟨pxb HB⟩⟩
                ·rw [if_neg c98] at H
                 have c98b0 : decide ((a0.size : Int) ≤ x10_4) = false := decide_eq_false c98
                 clear c98
                 have H' := Aside0.mk H
                 clear H
                 have p97 : 0 ≤ ((ji94) : Int) := pxd
                 have q97 : ((ji94) : Int) < ((x8_2.length : Int) : Int) := pxd
                 obtain ⟨go97, co97, eo97, gb97, gl97, cl97, HG97⟩ := Kd.R_form HO_8.out (by omega)
                 (first | cases eo97 | (injection eo97 with ea_ en_ ec_; (first | subst ea_ | (injection ea_ with ea_; subst ea_)); subst ec_; clear en_))
                 have GB97 := Aside0.mk gb97
                 have GG97 := Aside0.mk HG97
                 clear gb97 gl97 HG97
                 obtain ⟨hx97_0, hf97_0⟩ := Kd.R_celln 0 HO_8.out ((ji94) : Int) p97 q97
                 replace p97 := eq_true p97
                 replace q97 := eq_true q97
                 have HP109 := Kd.R_putg HO_8.out ((ji94) : Int) x10_4
                 go_wp2_with (first | ((with_reducible refine gate_store (t := 3) (p := 77) rfl ?_); (try (rw [drewN_self wr]; generalize hq_ : World.drewN wr _ = wr; have n0_ := Aside0.mk (Kd.S_at hq_ HO_6.out); have n1_ := Aside0.mk (Kd.R_at hq_ HO_8.out); have n2_ := Aside0.mk (below_at hq_ HB.out); clear hq_ HO_6 HO_8 HB; have HO_6 := n0_; have HO_8 := n1_; have HB := n2_; clear n0_ n1_ n2_; (try (have HP109 := Kd.R_putg HO_8.out ((ji94) : Int) x10_4)); (try (obtain ⟨hx97n_0, hf97n_0⟩ := Kd.R_celln 0 HO_8.out ((ji94) : Int) (of_eq_true p97) (of_eq_true q97))))); refine store_event (t := 3) (p := 77) (v := ?vo_w110) (w1 := (wr.setCell ⟨go97, ((ji94) : Int).toNat, none⟩ (.int .i64 x10_4))) ?hg ?ho ?hn ?hr ?_; (case ho => rfl); (case hg => rfl); (case hn => rfl); (case hr => first | (go_simp; done) | (go_simp; rfl)); intro w110 hw; have hg : wr.grownBy w110 (some go97) := (by rw [hw]; exact HP109.2); have hp_ : Kd.R (Kd.int .i64) 3 w110 w.heap.size (fun _ => True) (.slice (some ⟨go97, 0, none⟩) x8_2.length co97) y154 := (by rw [hw, Ny154.out]; exact HP109.1); clear HP109; replace HO_6 := Aside0.mk (Kd.S_after (v := (.slice (some ⟨go97, 0, none⟩) x8_2.length co97)) (v1 := (.slice (some ⟨go97, 0, none⟩) x8_2.length co97)) (ok := (fun _ => True)) (by (with_reducible repeat (first | apply Kd.S_alloc | apply Kd.S_drewN | apply Kd.S_drew)); exact Kd.S_mono HO_6.out (fun _ hk => ⟨trivial, hk⟩)) hg (.inl rfl)); replace HO_8 := Aside0.mk (hp_); replace HB := Aside0.mk ((by rw [hw]; exact below_set (HB.out) GB97.out : Below w.heap.size w w110)); clear hg hw hp_))
                 repeat (go_quiet (fail); try go_wp2_with (first | ((with_reducible refine gate_store (t := 3) (p := 77) rfl ?_); (try (rw [drewN_self wr]; generalize hq_ : World.drewN wr _ = wr; have n0_ := Aside0.mk (Kd.S_at hq_ HO_6.out); have n1_ := Aside0.mk (Kd.R_at hq_ HO_8.out); have n2_ := Aside0.mk (below_at hq_ HB.out); clear hq_ HO_6 HO_8 HB; have HO_6 := n0_; have HO_8 := n1_; have HB := n2_; clear n0_ n1_ n2_; (try (have HP109 := Kd.R_putg HO_8.out ((ji94) : Int) x10_4)); (try (obtain ⟨hx97n_0, hf97n_0⟩ := Kd.R_celln 0 HO_8.out ((ji94) : Int) (of_eq_true p97) (of_eq_true q97))))); refine store_event (t := 3) (p := 77) (v := ?vo_w110) (w1 := (wr.setCell ⟨go97, ((ji94) : Int).toNat, none⟩ (.int .i64 x10_4))) ?hg ?ho ?hn ?hr ?_; (case ho => rfl); (case hg => rfl); (case hn => rfl); (case hr => first | (go_simp; done) | (go_simp; rfl)); intro w110 hw; have hg : wr.grownBy w110 (some go97) := (by rw [hw]; exact HP109.2); have hp_ : Kd.R (Kd.int .i64) 3 w110 w.heap.size (fun _ => True) (.slice (some ⟨go97, 0, none⟩) x8_2.length co97) y154 := (by rw [hw, Ny154.out]; exact HP109.1); clear HP109; replace HO_6 := Aside0.mk (Kd.S_after (v := (.slice (some ⟨go97, 0, none⟩) x8_2.length co97)) (v1 := (.slice (some ⟨go97, 0, none⟩) x8_2.length co97)) (ok := (fun _ => True)) (by (with_reducible repeat (first | apply Kd.S_alloc | apply Kd.S_drewN | apply Kd.S_drew)); exact Kd.S_mono HO_6.out (fun _ hk => ⟨trivial, hk⟩)) hg (.inl rfl)); replace HO_8 := Aside0.mk (hp_); replace HB := Aside0.mk ((by rw [hw]; exact below_set (HB.out) GB97.out : Below w.heap.size w w110)); clear hg hw hp_)))
                 go_roundg k4
                 case measure => have := HK1.out; have := HK2.out; have := HJ9.out; have := HK4.out; omega
                 case rel => exact ⟨(y154), (wrap64 (x9_2 + 2)), (by first | rfl | (simp; done) | (simp [*]; done)), H', ⟨by have := HK1.out; have := HK2.out; have := HJ9.out; have := HK4.out; omega⟩, ⟨by (with_reducible repeat (first | apply Kd.S_alloc | apply Kd.S_drewN | apply Kd.S_drew)); exact Kd.S_mono HO_6.out (fun _ hk => hk.2)⟩, ⟨pxr HO_8⟩, ⟨pxb HB⟩⟩
               ·rw [if_neg c96] at H
                exact absurd H (by simp)
              ·rw [if_neg c95] at H
               exact absurd H (by simp)
        ·rw [if_neg c9] at H
         have c9b0 : decide (x9_2 ≤ x7_1) = false := decide_eq_false c9
         clear c9
         by_cases c111 : x6_1.length < 5864062014805
         ·rw [if_pos c111] at H
          have LMc111 := Aside0.mk c111
          clear c111
          obtain ⟨y121, hy121⟩ : ∃ y_ : List (List Int), y_ = (x6_1 ++ [x8_2]) := ⟨_, rfl⟩
          replace H : (diff_common.l0 k2 a0 a1 y121 (wrap64 (x7_1 + 1))) = some (r1, r2) := by first | (rw [hy121]; with_reducible exact H) | (have H2_ := (Option.bind_some _ _).symm.trans H; rw [hy121]; with_reducible exact H2_) | (have H2_ := (Option.bind_some _ _).symm.trans H; with_reducible exact H2_) | with_reducible exact H | (rw [hy121]; exact H) | exact H
          have Ny121 := Aside0.mk hy121
          clear hy121
          have H' := Aside0.mk H
          clear H
          obtain ⟨Ao113, co113, eo113⟩ := Kd.R_slice HO_8.out
          subst eo113
          go_wp2_with (first | ((with_reducible refine gate_builtin (b := .append) (xs := #[.tmp 95, .tmp 97]) rfl ?_); at_builtin; refine Kd.S_append (Kd.slice 3 (Kd.int .i64)) (w0 := w) w.heap.size rfl (.tmp 95) (.tmp 97) 83 84 (.slice none 0 0) 24 rfl Try.underlying83 info84 rfl (by decide) (by omega) u6 x6_1 x8_2 [.slice Ao113 x8_2.length co113] (fun _ => True) (fun k_ => some k_ = (.slice Ao113 x8_2.length co113 : Value).ownBlock) rfl rfl ?aP (fun k_ hk_ => ((Kd.R_mono (ok' := fun k_ => ((fun _ => True)) k_ ∧ some k_ ≠ (u6 : Value).ownBlock) (Kd.R_apart' (HO_8.out) (Kd.S_typed HO_6.out) (by decide)) (fun k_ hk => ⟨trivial, hk.2⟩))).1 k_ hk_.symm) ?aF ?aO ?aB ?aS ?aL ?_; (case aP => exact Kd.M_row (Kd.R_mono (Kd.R_tight rfl (Kd.R_mono (ok' := fun k_ => ((fun _ => True)) k_ ∧ some k_ ≠ (u6 : Value).ownBlock) (Kd.R_apart' (HO_8.out) (Kd.S_typed HO_6.out) (by decide)) (fun k_ hk => ⟨trivial, hk.2⟩))) (fun _ h_ => h_))); (case aB => exact (pxb HB)); (case aF => exact (fun _ _ => trivial)); (case aO => exact (by (with_reducible repeat (first | apply Kd.S_alloc | apply Kd.S_drewN | apply Kd.S_drew)); exact Kd.S_mono HO_6.out (fun k_ hk => ⟨trivial, fun e_ => hk e_⟩))); (case aS => exact (below_size (pxb HB))); (case aL => have := LMc111.out; omega); intro v122 w112 ho hb hg hat; rw [← Ny121.out] at ho; have n0_ := Aside0.mk (hb); have n1_ := Aside0.mk (ho); clear HB; clear HO_6; clear HO_8; have HB := n0_; have HO123 := n1_; clear n0_ n1_; clear ho hb hg hat))
          repeat (go_quiet (fail); try go_wp2_with (first | ((with_reducible refine gate_builtin (b := .append) (xs := #[.tmp 95, .tmp 97]) rfl ?_); at_builtin; refine Kd.S_append (Kd.slice 3 (Kd.int .i64)) (w0 := w) w.heap.size rfl (.tmp 95) (.tmp 97) 83 84 (.slice none 0 0) 24 rfl Try.underlying83 info84 rfl (by decide) (by omega) u6 x6_1 x8_2 [.slice Ao113 x8_2.length co113] (fun _ => True) (fun k_ => some k_ = (.slice Ao113 x8_2.length co113 : Value).ownBlock) rfl rfl ?aP (fun k_ hk_ => ((Kd.R_mono (ok' := fun k_ => ((fun _ => True)) k_ ∧ some k_ ≠ (u6 : Value).ownBlock) (Kd.R_apart' (HO_8.out) (Kd.S_typed HO_6.out) (by decide)) (fun k_ hk => ⟨trivial, hk.2⟩))).1 k_ hk_.symm) ?aF ?aO ?aB ?aS ?aL ?_; (case aP => exact Kd.M_row (Kd.R_mono (Kd.R_tight rfl (Kd.R_mono (ok' := fun k_ => ((fun _ => True)) k_ ∧ some k_ ≠ (u6 : Value).ownBlock) (Kd.R_apart' (HO_8.out) (Kd.S_typed HO_6.out) (by decide)) (fun k_ hk => ⟨trivial, hk.2⟩))) (fun _ h_ => h_))); (case aB => exact (pxb HB)); (case aF => exact (fun _ _ => trivial)); (case aO => exact (by (with_reducible repeat (first | apply Kd.S_alloc | apply Kd.S_drewN | apply Kd.S_drew)); exact Kd.S_mono HO_6.out (fun k_ hk => ⟨trivial, fun e_ => hk e_⟩))); (case aS => exact (below_size (pxb HB))); (case aL => have := LMc111.out; omega); intro v122 w112 ho hb hg hat; rw [← Ny121.out] at ho; have n0_ := Aside0.mk (hb); have n1_ := Aside0.mk (ho); clear HB; clear HO_6; clear HO_8; have HB := n0_; have HO123 := n1_; clear n0_ n1_; clear ho hb hg hat)))
          go_roundg k2
          case measure => have := HK1.out; have := HK2.out; omega
          case rel => exact ⟨(y121), (wrap64 (x7_1 + 1)), (by first | rfl | (simp; done) | (simp [*]; done)), H', ⟨by have := HK1.out; have := HK2.out; omega⟩, ⟨by (with_reducible repeat (first | apply Kd.S_alloc | apply Kd.S_drewN | apply Kd.S_drew)); exact HO123.out⟩, ⟨pxb HB⟩⟩
         ·rw [if_neg c111] at H
          exact absurd H (by simp)
     ·rw [if_neg c6] at H
      exact absurd H (by simp)
    ·rw [if_neg c5] at H
     exact absurd H (by simp)
   ·rw [if_neg c3] at H
    have c3b0 : decide (x7_1 ≤ 512) = false := decide_eq_false c3
    clear c3
    simp only [Option.some.injEq, Prod.mk.injEq] at H
    obtain ⟨rfl, rfl⟩ := H
    go_wp2
    repeat (go_quiet (fail); try go_wp2)
    go_ret2
    exact ⟨_, by first | rfl | (simp [errW_none, errW_some] <;> rfl) | (simp [*, errW_none, errW_some] <;> rfl), by first | exact Kd.R_nil _ _ _ _ _ | exact Kd.N_nil _ _ _ _ _ | exact Kd.V_nil _ _ _ _ _ | exact Kd.Q_nil _ _ _ _ _ | exact Kd.S_nil _ _ _ _ _, pxb HB⟩

end Go.Proofs.Ytoljmjhmieaggaa.X
