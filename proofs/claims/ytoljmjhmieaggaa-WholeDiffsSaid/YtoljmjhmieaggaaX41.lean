/- What the program's functions answer, as Lean functions, and that each call does just that; no condition. Written by a program (px.py) out of the translation. -/
import Derived.Test.YtoljmjhmieaggaaM2
import Derived.Test.YtoljmjhmieaggaaM5
namespace Go.Proofs.Ytoljmjhmieaggaa.X
open Go.RowKit Go.Proofs.YtoljmjhmieaggaaW.PrintWords Go.Proofs.YtoljmjhmieaggaaW.PrintLast Go.Proofs.YtoljmjhmieaggaaW.PrintMore
attribute [local go_sem] max2_int min2_int max_two min_two max_three min_three max_four min_four   -- for this text's walks alone
set_option linter.unusedVariables false
set_option linter.unusedSimpArgs false

/-! ### diff_back: function 41 -/
mutual
def diff_back.l0 : Nat → List (List Int) → List (S63) → Int → Int → Int → Option ((List (S63)))
 | 0, _, _, _, _, _ => none
 | k + 1, x2, x7, x8, x9, x10 => if x10 ≥ 0 then (if x10 > 0 then (if 0 ≤ (wrap64 (x10 - 1)) then (if (wrap64 (x10 - 1)) < (x2.length : Int) then ((diff_step.f k (rd_L1 x2 (wrap64 (x10 - 1))) (wrap64 (x8 - x9)) x10).bind fun t107 => (diff_back.j1 k x2 x7 x8 x10 (wrap64 (x8 - x9)) t107)) else (none)) else (none)) else (diff_back.j1 k x2 x7 x8 x10 (wrap64 (x8 - x9)) 0)) else (some x7)
def diff_back.j1 : Nat → List (List Int) → List (S63) → Int → Int → Int → Int → Option ((List (S63)))
 | 0, _, _, _, _, _, _ => none
 | k + 1, x2, x7, x8, x10, x11, x12 => if x8 > x12 then ((some (([(⟨x12, wrap64 (x12 - x11), wrap64 (x8 - x12)⟩ : S63)] : List (S63)) : List (S63))).bind fun y108 => (if y108.length + x7.length < 5864062014805 then (diff_back.j2 k x2 (y108 ++ x7) x10 x11 x12) else (none))) else (diff_back.j2 k x2 x7 x10 x11 x12)
def diff_back.j2 : Nat → List (List Int) → List (S63) → Int → Int → Int → Option ((List (S63)))
 | 0, _, _, _, _, _ => none
 | k + 1, x2, x7, x10, x11, x12 => if x10 = 0 then (some x7) else (if x11 = (wrap64 (-x10)) then (diff_back.l0 k x2 x7 x12 (wrap64 ((wrap64 (x12 - x11)) - 1)) (wrap64 (x10 - 1))) else (if x11 = x10 then (diff_back.l0 k x2 x7 (wrap64 (x12 - 1)) (wrap64 (x12 - x11)) (wrap64 (x10 - 1))) else (if 0 ≤ (wrap64 (x10 - 1)) then (if (wrap64 (x10 - 1)) < (x2.length : Int) then ((diff_front_at.f (rd_L1 x2 (wrap64 (x10 - 1))) (wrap64 (x11 - 1)) (wrap64 (x10 - 1))).bind fun t115 => ((diff_front_at.f (rd_L1 x2 (wrap64 (x10 - 1))) (wrap64 (x11 + 1)) (wrap64 (x10 - 1))).bind fun t117 => (if t115 < t117 then (diff_back.l0 k x2 x7 x12 (wrap64 ((wrap64 (x12 - x11)) - 1)) (wrap64 (x10 - 1))) else (diff_back.l0 k x2 x7 (wrap64 (x12 - 1)) (wrap64 (x12 - x11)) (wrap64 (x10 - 1)))))) else (none)) else (none))))
end
def diff_back.f (k : Nat) (a0 : ByteArray) (a1 : ByteArray) (l2 : List (List Int)) : Option ((List (S63))) := diff_back.l0 k l2 ([] : List (S63)) (a0.size : Int) (a1.size : Int) (wrap64 ((l2.length : Int) - 1))
theorem diff_back.mono_l : ∀ k, (∀ y0 y1 y2 y3 y4, LeO (diff_back.l0 k y0 y1 y2 y3 y4) (diff_back.l0 (k + 1) y0 y1 y2 y3 y4)) ∧ (∀ y0 y1 y2 y3 y4 y5, LeO (diff_back.j1 k y0 y1 y2 y3 y4 y5) (diff_back.j1 (k + 1) y0 y1 y2 y3 y4 y5)) ∧ (∀ y0 y1 y2 y3 y4, LeO (diff_back.j2 k y0 y1 y2 y3 y4) (diff_back.j2 (k + 1) y0 y1 y2 y3 y4))
 | 0 => ⟨fun _ _ _ _ _ r h => by simp [diff_back.l0] at h, fun _ _ _ _ _ _ r h => by simp [diff_back.j1] at h, fun _ _ _ _ _ r h => by simp [diff_back.j2] at h⟩
 | k + 1 => by
  obtain ⟨ih0, ih1, ih2⟩ := diff_back.mono_l k
  refine ⟨?_, ?_, ?_⟩
  ·intro y0 y1 y2 y3 y4
   unfold diff_back.l0
   repeat' first
   | (with_reducible exact ih0 _ _ _ _ _)
   | (with_reducible exact ih1 _ _ _ _ _ _)
   | (with_reducible exact ih2 _ _ _ _ _)
   | (with_reducible exact diff_step.mono _ _ _ _)
   | (with_reducible exact LeO.refl _)
   | (with_reducible exact LeO.none _)
   | (with_reducible refine LeO.ite ?_ ?_)
   | (with_reducible refine LeO.bind ?_ (fun _ => ?_))
   | exact ih0 _ _ _ _ _
   | exact ih1 _ _ _ _ _ _
   | exact ih2 _ _ _ _ _
   | exact diff_step.mono _ _ _ _
   | exact LeO.none _
   | refine LeO.ite ?_ ?_
   | refine LeO.bind ?_ (fun _ => ?_)
  ·intro y0 y1 y2 y3 y4 y5
   unfold diff_back.j1
   repeat' first
   | (with_reducible exact ih0 _ _ _ _ _)
   | (with_reducible exact ih1 _ _ _ _ _ _)
   | (with_reducible exact ih2 _ _ _ _ _)
   | (with_reducible exact diff_step.mono _ _ _ _)
   | (with_reducible exact LeO.refl _)
   | (with_reducible exact LeO.none _)
   | (with_reducible refine LeO.ite ?_ ?_)
   | (with_reducible refine LeO.bind ?_ (fun _ => ?_))
   | exact ih0 _ _ _ _ _
   | exact ih1 _ _ _ _ _ _
   | exact ih2 _ _ _ _ _
   | exact diff_step.mono _ _ _ _
   | exact LeO.none _
   | refine LeO.ite ?_ ?_
   | refine LeO.bind ?_ (fun _ => ?_)
  ·intro y0 y1 y2 y3 y4
   unfold diff_back.j2
   repeat' first
   | (with_reducible exact ih0 _ _ _ _ _)
   | (with_reducible exact ih1 _ _ _ _ _ _)
   | (with_reducible exact ih2 _ _ _ _ _)
   | (with_reducible exact diff_step.mono _ _ _ _)
   | (with_reducible exact LeO.refl _)
   | (with_reducible exact LeO.none _)
   | (with_reducible refine LeO.ite ?_ ?_)
   | (with_reducible refine LeO.bind ?_ (fun _ => ?_))
   | exact ih0 _ _ _ _ _
   | exact ih1 _ _ _ _ _ _
   | exact ih2 _ _ _ _ _
   | exact diff_step.mono _ _ _ _
   | exact LeO.none _
   | refine LeO.ite ?_ ?_
   | refine LeO.bind ?_ (fun _ => ?_)
theorem diff_back.mono : ∀ a0 a1 a2 k, LeO (diff_back.f k a0 a1 a2) (diff_back.f (k + 1) a0 a1 a2) := by
 intro a0 a1 a2 k
 obtain ⟨ih0, ih1, ih2⟩ := diff_back.mono_l k
 unfold diff_back.f
 repeat' first
   | (with_reducible exact ih0 _ _ _ _ _)
   | (with_reducible exact ih1 _ _ _ _ _ _)
   | (with_reducible exact ih2 _ _ _ _ _)
   | (with_reducible exact diff_step.mono _ _ _ _)
   | (with_reducible exact LeO.refl _)
   | (with_reducible exact LeO.none _)
   | (with_reducible refine LeO.ite ?_ ?_)
   | (with_reducible refine LeO.bind ?_ (fun _ => ?_))
   | exact ih0 _ _ _ _ _
   | exact ih1 _ _ _ _ _ _
   | exact ih2 _ _ _ _ _
   | exact diff_step.mono _ _ _ _
   | exact LeO.none _
   | refine LeO.ite ?_ ?_
   | refine LeO.bind ?_ (fun _ => ?_)
def diff_back.T14 : Bool × List (List Nat × List Nat) := (true, [([], []), ([], []), ([1], [1]), ([0, 2], [0, 2]), ([3], [3]), ([4], [4]), ([4], [4]), ([5, 6, 4], [4, 5, 6]), ([7, 4, 4], [4, 7]), ([8], [8]), ([8], [8]), ([10, 8], [8, 10]), ([9, 11, 8], [8, 9, 11]), ([12, 8], [8, 12]), ([8], [8]), ([14, 8], [8, 14]), ([8], [8]), ([16, 8], [8, 16]), ([13, 15, 17, 8, 8], [8, 13, 15, 17]), ([8], [8]), ([8], [8]), ([20, 8], [8, 20]), ([19, 21, 8], [8, 19, 21]), ([22, 8], [8, 22]), ([8], [8]), ([24, 8], [8, 24]), ([8], [8]), ([26, 8], [8, 26]), ([23, 25, 27, 18, 8], [8, 23, 25, 27]), ([18, 28, 8], [8, 18, 28]), ([8, 29, 4], [4, 8, 29]), ([4, 30], [4, 30])])
def diff_back.B14 : List Nat := [0, 0, 2, 7, 15, 31, 31, 127, 255, 511, 511, 1535, 4095, 8191, 511, 16895, 511, 66047, 262143, 511, 511, 1049087, 3670527, 7864831, 511, 16777727, 511, 67109375, 268435455, 536870911, 1073741823, 2147483647]
theorem diff_back.tab14 : rtab .any (opsOf Try.f41 14) = diff_back.T14 := by kernel_rfl
theorem diff_back.bits14 : waitsOk diff_back.T14.2 diff_back.B14 = true := by kernel_rfl
set_option maxHeartbeats 8000000 in
set_option maxRecDepth 100000 in
theorem diff_back.calls (k : Nat) (a0 : ByteArray) (a1 : ByteArray) (A2 : Option Addr) (c2 : Nat) (l2 : List (List Int)) (r : List (S63)) (w : World) (hr2 : Kd.C (Kd.slice 3 (Kd.int .i64)) w A2 l2.length l2) (hc2 : l2.length ≤ c2) (h : diff_back.f k a0 a1 l2 = some r) :
  Calls Try.prog 41 #[.string a0, .string a1, .slice A2 l2.length c2] w fun e w' => ∃ v0_ : Value, e = .returned (v0_) ∧ Kd.R k63 63 w' w.heap.size (fun _ => True) v0_ r ∧ Below w.heap.size w w' := by
 have hu63 := Try.underlying63
 have HR2 := Aside0.mk hr2
 have HC2 := Aside0.mk hc2
 clear hr2 hc2
 have HB := Aside0.mk (Below.refl w.heap.size w)
 have H : (diff_back.l0 k l2 ([] : List (S63)) (a0.size : Int) (a1.size : Int) (wrap64 ((l2.length : Int) - 1))) = some r := h
 clear h
 have H' := Aside0.mk H
 clear H
 go_enter Try.func41, Try.ntmps41
 go_wp2
 go_loopg [7, 8, 9, 10] k (fun kq v7 v8 v9 v10 w' => ∃ (x7_1 : List (S63)) (x8_1 : Int) (x9_1 : Int) (x10_1 : Int), v8 = .int .i64 x8_1 ∧ v9 = .int .i64 x9_1 ∧ v10 = .int .i64 x10_1 ∧ Aside0 (diff_back.l0 kq l2 x7_1 x8_1 x9_1 x10_1 = some r) ∧ Aside0 (kq ≤ k) ∧ Aside0 (Kd.R k63 63 w' w.heap.size (fun _ => True) v7 x7_1) ∧ Aside0 (Below w.heap.size w w'))
 case atStart => exact ⟨(([] : List (S63))), ((a0.size : Int)), ((a1.size : Int)), (wrap64 ((l2.length : Int) - 1)), (by first | rfl | (simp; done) | (simp [*]; done)), (by first | rfl | (simp; done) | (simp [*]; done)), (by first | rfl | (simp; done) | (simp [*]; done)), H', ⟨Nat.le_refl _⟩, ⟨by first | exact Kd.R_nil _ _ _ _ _ | exact Kd.N_nil _ _ _ _ _ | exact Kd.V_nil _ _ _ _ _ | exact Kd.Q_nil _ _ _ _ _ | exact Kd.S_nil _ _ _ _ _⟩, ⟨pxb HB⟩⟩
 case round =>
  clear H'
  (try clear c2); (try clear p2)
  obtain ⟨x7_1, x8_1, x9_1, x10_1, rfl, rfl, rfl, HA, HK1, HO_7, HB⟩ := hrel
  cases gk with
  | zero => exact absurd HA.out (by simp [diff_back.l0])
  | succ k1 =>
   have H := HA.out
   clear HA
   simp only [diff_back.l0] at H
   by_cases c4 : x10_1 ≥ 0
   ·rw [if_pos c4] at H
    have c4b0 : decide (0 ≤ x10_1) = true := decide_eq_true c4
    clear c4
    have HC5 := Aside0.mk H
    clear H
    go_upto_if 28 with (fail)
    go_cut [12] (fun v12 wc => ∃ (kq : Nat) (x12_4 : Int), v12 = .int .i64 x12_4 ∧ Aside0 (diff_back.j1 kq l2 x7_1 x8_1 x10_1 (wrap64 (x8_1 - x9_1)) x12_4 = some r) ∧ Aside0 (kq ≤ k1) ∧ Aside0 (Kd.R k63 63 wc w.heap.size (fun _ => True) u7 x7_1) ∧ Aside0 (Below w.heap.size w wc))
    case first =>
     have H := HC5.out
     clear HC5
     by_cases c6 : x10_1 > 0
     ·rw [if_pos c6] at H
      have c6b0 : decide (0 < x10_1) = true := decide_eq_true c6
      clear c6
      (first | rw [c6b0] | (simp only [i64_w, i32_w]; rw [c6b0]) | skip)
      obtain ⟨ji7, hji7⟩ : ∃ j_ : Int, (wrap64 (x10_1 - 1)) = j_ := ⟨_, rfl⟩
      replace H : (if 0 ≤ (ji7) then (if (ji7) < (l2.length : Int) then ((diff_step.f k1 (rd_L1 l2 (ji7)) (wrap64 (x8_1 - x9_1)) x10_1).bind fun t107 => (diff_back.j1 k1 l2 x7_1 x8_1 x10_1 (wrap64 (x8_1 - x9_1)) t107)) else (none)) else (none)) = some r := by first | (rw [hji7] at H; exact H) | (simp only [hji7] at H ⊢; exact H)
      have hji7w : (IntKind.i64.wrap (x10_1 - 1)) = ji7 := (i64_w _).trans hji7
      by_cases c8 : 0 ≤ (ji7)
      ·rw [if_pos c8] at H
       have c8b0 : decide (0 ≤ (ji7)) = true := decide_eq_true c8
       clear c8
       by_cases c9 : (ji7) < (l2.length : Int)
       ·rw [if_pos c9] at H
        have c9b0 : decide ((ji7) < (l2.length : Int)) = true := decide_eq_true c9
        clear c9
        replace H := Option.bind_eq_some_iff.mp H
        obtain ⟨t107, A100, H⟩ := H
        replace H : (diff_back.j1 k1 l2 x7_1 x8_1 x10_1 (wrap64 (x8_1 - x9_1)) t107) = some r := H
        have A10 := Aside0.mk A100
        clear A100
        have H' := Aside0.mk H
        clear H
        have p106 : 0 ≤ ((ji7) : Int) := pxd
        have q106 : (ji7) < (l2.length : Int) := pxd
        obtain ⟨ad106, A106_0, c106_0, e106, hx106_0, hl106_0, hi106_0⟩ := at_L1 HR2.out (ji7) p106 q106
        cases e106
        replace hx106_0 := (HB.out.cell (World.block_lt_of_cell? w _ hx106_0)).trans hx106_0
        have HR106_0 := Aside0.mk hi106_0
        have HC106_0 := Aside0.mk hl106_0
        clear hi106_0 hl106_0
        replace p106 := eq_true p106
        replace q106 := eq_true q106
        go_wp2_with (first | ((with_reducible refine gate_callee (f := 40) rfl ?_); refine goesL_ (some 36) rfl rfl Try.func40 (by kernel_rfl) rfl #[.slice A106_0 (rd_L1 l2 (ji7)).length c106_0, .int .i64 (wrap64 (x8_1 - x9_1)), .int .i64 x10_1] rfl (by (try simp only [List.map_toArray, List.map_cons, List.map_nil]); first | done | (simp only [hji7]; rfl) | rfl | (simp only [List.length_drop, List.length_take]; rfl)) ?_; (with_reducible refine (diff_step.calls k1 _ _ (rd_L1 l2 (ji7)) (wrap64 (x8_1 - x9_1)) x10_1 t107 _ ?side1 ?side2 A10.out).mono ?_); (case side1 => exact pxc HR106_0 HB); (case side2 => exact HC106_0.out); rintro e w' ⟨rfl, ⟨nd, rfl⟩⟩; refine ⟨_, rfl, ?_⟩))
        go_meet
        case rel => exact ⟨_, (t107), (by first | rfl | (simp; done) | (simp [*]; done)), H', ⟨by have := HK1.out; first | omega | exact Nat.le_refl _⟩, ⟨pxr HO_7⟩, ⟨pxb HB⟩⟩
       ·rw [if_neg c9] at H
        exact absurd H (by simp)
      ·rw [if_neg c8] at H
       exact absurd H (by simp)
     ·rw [if_neg c6] at H
      have c6b0 : decide (0 < x10_1) = false := decide_eq_false c6
      clear c6
      (first | rw [c6b0] | (simp only [i64_w, i32_w]; rw [c6b0]) | skip)
      have H' := Aside0.mk H
      clear H
      go_wp2
      go_meet
      case rel => exact ⟨_, (0), (by first | rfl | (simp; done) | (simp [*]; done)), H', ⟨by have := HK1.out; first | omega | exact Nat.le_refl _⟩, ⟨pxr HO_7⟩, ⟨pxb HB⟩⟩
    case rest =>
     clear HC5
     (try clear c1); (try clear p1); (try clear q1); (try clear hx1); (try clear c2); (try clear p2); (try clear c4); (try clear c4b0); (try clear c6); (try clear c6b0); (try clear p6); (try clear c8); (try clear c8b0); (try clear c9); (try clear c9b0); (try clear c10); (try clear p10); (try clear q10); (try clear hx10); (try clear hx106_0); (try clear p106); (try clear q106)
     obtain ⟨kq, x12_4, rfl, HA, HJ4, HO_7, HB⟩ := hcut
     cases kq with
     | zero => exact absurd HA.out (by simp [diff_back.j1])
     | succ kj4 =>
      have H := HA.out
      clear HA
      simp only [diff_back.j1] at H
      have HC11 := Aside0.mk H
      clear H
      go_upto_if 39 with (fail)
      go_cut [7] (fun v7 wc => ∃ (kq : Nat) (x7_10 : List (S63)), Aside0 (diff_back.j2 kq l2 x7_10 x10_1 (wrap64 (x8_1 - x9_1)) x12_4 = some r) ∧ Aside0 (kq ≤ kj4) ∧ Aside0 (Kd.R k63 63 wc w.heap.size (fun _ => True) v7 x7_10) ∧ Aside0 (Below w.heap.size w wc))
      case first =>
       have H := HC11.out
       clear HC11
       by_cases c12 : x8_1 > x12_4
       ·rw [if_pos c12] at H
        have c12b0 : decide (x12_4 < x8_1) = true := decide_eq_true c12
        clear c12
        (first | rw [c12b0] | (simp only [i64_w, i32_w]; rw [c12b0]) | skip)
        obtain ⟨y108, hy108⟩ : ∃ y_ : List (S63), y_ = (([(⟨x12_4, wrap64 (x12_4 - (wrap64 (x8_1 - x9_1))), wrap64 (x8_1 - x12_4)⟩ : S63)] : List (S63))) := ⟨_, rfl⟩
        replace H : (if y108.length + x7_1.length < 5864062014805 then (diff_back.j2 kj4 l2 (y108 ++ x7_1) x10_1 (wrap64 (x8_1 - x9_1)) x12_4) else (none)) = some r := by first | (rw [hy108]; with_reducible exact H) | (have H2_ := (Option.bind_some _ _).symm.trans H; rw [hy108]; with_reducible exact H2_) | (have H2_ := (Option.bind_some _ _).symm.trans H; with_reducible exact H2_) | with_reducible exact H | (rw [hy108]; exact H) | exact H
        have Ny108 := Aside0.mk hy108
        clear hy108
        by_cases c13 : y108.length + x7_1.length < 5864062014805
        ·rw [if_pos c13] at H
         have LMc13 := Aside0.mk c13
         clear c13
         obtain ⟨y111, hy111⟩ : ∃ y_ : List (S63), y_ = (y108 ++ x7_1) := ⟨_, rfl⟩
         replace H : (diff_back.j2 kj4 l2 y111 x10_1 (wrap64 (x8_1 - x9_1)) x12_4) = some r := by first | (rw [hy111]; with_reducible exact H) | (have H2_ := (Option.bind_some _ _).symm.trans H; rw [hy111]; with_reducible exact H2_) | (have H2_ := (Option.bind_some _ _).symm.trans H; with_reducible exact H2_) | with_reducible exact H | (rw [hy111]; exact H) | exact H
         have Ny111 := Aside0.mk hy111
         clear hy111
         have H' := Aside0.mk H
         clear H
         go_wp2_with (first | ((with_reducible refine gate_dst (N := 48) rfl ?_); refine Kd.R_lit k63 _ 63 ?hg (N := 48) ?hd (xs := ([(⟨x12_4, wrap64 (x12_4 - (wrap64 (x8_1 - x9_1))), wrap64 (x8_1 - x12_4)⟩ : S63)] : List (S63))) (inner := [.int .i64 x12_4, .int .i64 (wrap64 (x12_4 - (wrap64 (x8_1 - x9_1)))), .int .i64 (wrap64 (x8_1 - x12_4))]) (ok := fun _ => True) (okp := fun _ => True) ?hr ?hp (fun _ hk => hk) trivial (Below.refl _ _) (Nat.le_refl _) (by simp) ?_; (case hd => rfl); (case hg => rfl); (case hr => first | (go_simp; done) | (go_simp; rfl)); (case hp => exact (Reps.c3 (show Kd.M k63 _ _ _ (⟨x12_4, wrap64 (x12_4 - (wrap64 (x8_1 - x9_1))), wrap64 (x8_1 - x12_4)⟩ : S63) [.int .i64 x12_4, .int .i64 (wrap64 (x12_4 - (wrap64 (x8_1 - x9_1)))), .int .i64 (wrap64 (x8_1 - x12_4))] from (k63_mkM _ _ _ (⟨x12_4, wrap64 (x12_4 - (wrap64 (x8_1 - x9_1))), wrap64 (x8_1 - x12_4)⟩ : S63) )) (Reps.none _ _))); intro v109 w14 ho15 hb hg_ hnew_; clear hg_ hnew_; (first | rw [← Ny108.out] at ho15 | (simp only [Int.reduceToNat] at ho15; rw [← Ny108.out] at ho15)); have HO110 := Aside0.mk (Kd.R_lower (Kd.R_new' ho15 (Kd.R_lt (pxr HO_7))) (below_size (pxb HB))); replace HO_7 := Aside0.mk (Kd.R_elder' (pxr HO_7) (Kd.R_base ho15) hb); replace HB := pxs HB hb; clear hb ho15; obtain ⟨Ao17, co17, eo17⟩ := Kd.R_slice HO_7.out; subst eo17) | ((with_reducible refine gate_builtin (b := .append) (xs := #[.tmp 48, .tmp 49]) rfl ?_); at_builtin; refine Kd.R_append_rows k63 (w0 := w) w.heap.size rfl (.tmp 48) (.tmp 49) 59 63 (.agg #[(.int .i64 0), (.int .i64 0), (.int .i64 0)]) 24 rfl Try.underlying59 info63 rfl (by decide) (by omega) v109 y108 x7_1 _ _ _ (fun k_ => some k_ ≠ (.slice Ao17 x7_1.length co17 : Value).ownBlock) (fun _ => False) rfl rfl ?aO ?aR (fun _ _ h => h) (fun _ h => h.elim) ?aF ?aB ?aS ?aL ?_; (case aR => repeat (first | exact (Kd.R_reads' HO_7.out).2.2 | (with_reducible refine Kd.C_alloc ?_ _) | (with_reducible refine Kd.C_drewN ?_ _) | (with_reducible refine Kd.C_drew ?_))); (case aB => exact (pxb HB)); (case aF => exact (fun k_ hk => Kd.fresh' (Kd.R_lt (pxr HO_7)) k_ hk)); (case aO => exact (by (with_reducible repeat (first | apply Kd.R_alloc | apply Kd.R_drewN | apply Kd.R_drew)); exact Kd.R_mono HO110.out (fun _ hk => hk.2))); (case aS => exact (below_size (pxb HB))); (case aL => have := LMc13.out; omega); intro v112 w16 ho hb hg hat; rw [← Ny111.out] at ho; have n0_ := Aside0.mk (Kd.R_after (ok := (fun _ => True)) (pxr HO_7) hg hat); have n1_ := Aside0.mk (hb); have n2_ := Aside0.mk (ho); clear HO_7; clear HB; clear HO110; have HO_7 := n0_; have HB := n1_; have HO113 := n2_; clear n0_ n1_ n2_; clear ho hb hg hat))
         go_meet
         case rel => exact ⟨_, (y111), H', ⟨by have := HK1.out; have := HJ4.out; first | omega | exact Nat.le_refl _⟩, ⟨by (with_reducible repeat (first | apply Kd.R_alloc | apply Kd.R_drewN | apply Kd.R_drew)); exact Kd.R_mono HO113.out (fun _ hk => trivial)⟩, ⟨pxb HB⟩⟩
        ·rw [if_neg c13] at H
         exact absurd H (by simp)
       ·rw [if_neg c12] at H
        have c12b0 : decide (x12_4 < x8_1) = false := decide_eq_false c12
        clear c12
        (first | rw [c12b0] | (simp only [i64_w, i32_w]; rw [c12b0]) | skip)
        have H' := Aside0.mk H
        clear H
        go_wp2
        go_meet
        case rel => exact ⟨_, (x7_1), H', ⟨by have := HK1.out; have := HJ4.out; first | omega | exact Nat.le_refl _⟩, ⟨pxr HO_7⟩, ⟨pxb HB⟩⟩
      case rest =>
       clear HC11
       (try clear c1); (try clear p1); (try clear q1); (try clear hx1); (try clear c2); (try clear p2); (try clear c3); (try clear c4); (try clear c4b0); (try clear c6); (try clear c6b0); (try clear p6); (try clear c8); (try clear c8b0); (try clear c9); (try clear c9b0); (try clear c10); (try clear p10); (try clear q10); (try clear hx10); (try clear c12); (try clear c12b0); (try clear c13); (try clear hx106_0); (try clear p106); (try clear q106)
       obtain ⟨kq, x7_10, HA, HJ10, HO_7, HB⟩ := hcut
       cases kq with
       | zero => exact absurd HA.out (by simp [diff_back.j2])
       | succ kj10 =>
        have H := HA.out
        clear HA
        simp only [diff_back.j2] at H
        by_cases c18 : x10_1 = 0
        ·rw [if_pos c18] at H
         have c18b0 : (x10_1 == 0) = true := beq_iff_eq.mpr c18
         have c18b1 : (x10_1 != 0) = false := bne_eq_false_iff_eq.mpr c18
         clear c18
         obtain rfl := Option.some.inj H
         go_wp2
         go_ret
         exact ⟨_, by first | rfl | (simp [errW_none, errW_some] <;> rfl) | (simp [*, errW_none, errW_some] <;> rfl), pxr HO_7, pxb HB⟩
        ·rw [if_neg c18] at H
         have c18b0 : (x10_1 == 0) = false := beq_eq_false_iff_ne.mpr c18
         have c18b1 : (x10_1 != 0) = true := bne_iff_ne.mpr c18
         by_cases c19 : (wrap64 (x8_1 - x9_1)) = (wrap64 (-x10_1))
         ·rw [if_pos c19] at H
          have c19b0 : ((wrap64 (x8_1 - x9_1)) == (wrap64 (-x10_1))) = true := beq_iff_eq.mpr c19
          have c19b1 : ((wrap64 (x8_1 - x9_1)) != (wrap64 (-x10_1))) = false := bne_eq_false_iff_eq.mpr c19
          clear c19
          have H' := Aside0.mk H
          clear H
          try go_wp2
          have n0_ := Aside0.mk (Kd.R_drew HO_7.out)
          have n1_ := Aside0.mk (below_drew1 HB.out)
          clear HO_7
          clear HB
          have HO_7 := n0_
          have HB := n1_
          clear n0_ n1_
          refine start_ (n := 32) (S := fun w' => True) (ds := []) #[false, false, false, false, false, false, false, false, false, false, false, false, false, false, false, false, false, false, false, false, false, false, false, false, false, false, false, false, false, false, false, false] (by kernel_rfl) rfl rfl trivial (fun hHeld => ?_); refine with_tabW diff_back.tab14 diff_back.bits14 (fun HT_ HW_ => ?_)
          generalize wc.drew = w20 at HO_7 HB hHeld ⊢
          refine pS 0 57 HT_ ?_
          refine pS 1 58 HT_ ?_
          refine pS 2 59 HT_ ?_
          refine pS 3 60 HT_ ?_
          refine pS 4 61 HT_ ?_
          refine pU 5 62 HT_ ?_
          refine pU 6 63 HT_ ?_
          refine pU 7 64 HT_ ?_
          refine pU 8 65 HT_ ?_
          refine pU 9 66 HT_ ?_
          refine pU 10 67 HT_ ?_
          refine pU 11 68 HT_ ?_
          refine pU 12 69 HT_ ?_
          refine pU 13 70 HT_ ?_
          refine pU 14 71 HT_ ?_
          refine pU 15 72 HT_ ?_
          refine pU 16 73 HT_ ?_
          refine pU 17 74 HT_ ?_
          refine pU 18 75 HT_ ?_
          refine pU 19 76 HT_ ?_
          refine pU 20 77 HT_ ?_
          refine pU 21 78 HT_ ?_
          refine pU 22 79 HT_ ?_
          refine pU 23 80 HT_ ?_
          refine pU 24 81 HT_ ?_
          refine pU 25 82 HT_ ?_
          refine pU 26 83 HT_ ?_
          refine pU 27 84 HT_ ?_
          refine pU 28 85 HT_ ?_
          refine pU 29 86 HT_ ?_
          refine pU 30 87 HT_ ?_
          refine pS 31 88 HT_ ?_
          refine done_ (done_of HT_.out (by kernel_rfl)) ?_
          try go_wp2
          go_roundg kj10
          case measure => have := HK1.out; have := HJ4.out; have := HJ10.out; omega
          case rel => exact ⟨(x7_10), (x12_4), (wrap64 ((wrap64 (x12_4 - (wrap64 (x8_1 - x9_1)))) - 1)), (wrap64 (x10_1 - 1)), (by first | rfl | (simp; done) | (simp [*]; done)), (by first | rfl | (simp; done) | (simp [*]; done)), (by first | rfl | (simp; done) | (simp [*]; done)), H', ⟨by have := HK1.out; have := HJ4.out; have := HJ10.out; omega⟩, ⟨pxr HO_7⟩, ⟨pxb HB⟩⟩
         ·rw [if_neg c19] at H
          have c19b0 : ((wrap64 (x8_1 - x9_1)) == (wrap64 (-x10_1))) = false := beq_eq_false_iff_ne.mpr c19
          have c19b1 : ((wrap64 (x8_1 - x9_1)) != (wrap64 (-x10_1))) = true := bne_iff_ne.mpr c19
          by_cases c21 : (wrap64 (x8_1 - x9_1)) = x10_1
          ·rw [if_pos c21] at H
           have c21b0 : ((wrap64 (x8_1 - x9_1)) == x10_1) = true := beq_iff_eq.mpr c21
           have c21b1 : ((wrap64 (x8_1 - x9_1)) != x10_1) = false := bne_eq_false_iff_eq.mpr c21
           clear c21
           have H' := Aside0.mk H
           clear H
           try go_wp2
           have n0_ := Aside0.mk (Kd.R_drew HO_7.out)
           have n1_ := Aside0.mk (below_drew1 HB.out)
           clear HO_7
           clear HB
           have HO_7 := n0_
           have HB := n1_
           clear n0_ n1_
           refine start_ (n := 32) (S := fun w' => True) (ds := []) #[false, false, false, false, false, false, false, false, false, false, false, false, false, false, false, false, false, false, false, false, false, false, false, false, false, false, false, false, false, false, false, false] (by kernel_rfl) rfl rfl trivial (fun hHeld => ?_); refine with_tabW diff_back.tab14 diff_back.bits14 (fun HT_ HW_ => ?_)
           generalize wc.drew = w22 at HO_7 HB hHeld ⊢
           refine pS 0 57 HT_ ?_
           refine pS 1 58 HT_ ?_
           refine pS 2 59 HT_ ?_
           refine pS 3 60 HT_ ?_
           refine pS 4 61 HT_ ?_
           refine pS 5 62 HT_ ?_
           refine pS 6 63 HT_ ?_
           refine pS 7 64 HT_ ?_
           refine pS 8 65 HT_ ?_
           refine pU 9 66 HT_ ?_
           refine pU 10 67 HT_ ?_
           refine pU 11 68 HT_ ?_
           refine pU 12 69 HT_ ?_
           refine pU 13 70 HT_ ?_
           refine pU 14 71 HT_ ?_
           refine pU 15 72 HT_ ?_
           refine pU 16 73 HT_ ?_
           refine pU 17 74 HT_ ?_
           refine pU 18 75 HT_ ?_
           refine pU 19 76 HT_ ?_
           refine pU 20 77 HT_ ?_
           refine pU 21 78 HT_ ?_
           refine pU 22 79 HT_ ?_
           refine pU 23 80 HT_ ?_
           refine pU 24 81 HT_ ?_
           refine pU 25 82 HT_ ?_
           refine pU 26 83 HT_ ?_
           refine pU 27 84 HT_ ?_
           refine pU 28 85 HT_ ?_
           refine pU 29 86 HT_ ?_
           refine pS 30 87 HT_ ?_
           refine pS 31 88 HT_ ?_
           refine done_ (done_of HT_.out (by kernel_rfl)) ?_
           try go_wp2
           go_roundg kj10
           case measure => have := HK1.out; have := HJ4.out; have := HJ10.out; omega
           case rel => exact ⟨(x7_10), (wrap64 (x12_4 - 1)), (wrap64 (x12_4 - (wrap64 (x8_1 - x9_1)))), (wrap64 (x10_1 - 1)), (by first | rfl | (simp; done) | (simp [*]; done)), (by first | rfl | (simp; done) | (simp [*]; done)), (by first | rfl | (simp; done) | (simp [*]; done)), H', ⟨by have := HK1.out; have := HJ4.out; have := HJ10.out; omega⟩, ⟨pxr HO_7⟩, ⟨pxb HB⟩⟩
          ·rw [if_neg c21] at H
           have c21b0 : ((wrap64 (x8_1 - x9_1)) == x10_1) = false := beq_eq_false_iff_ne.mpr c21
           have c21b1 : ((wrap64 (x8_1 - x9_1)) != x10_1) = true := bne_iff_ne.mpr c21
           obtain ⟨ji23, hji23⟩ : ∃ j_ : Int, (wrap64 (x10_1 - 1)) = j_ := ⟨_, rfl⟩
           replace H : (if 0 ≤ (ji23) then (if (ji23) < (l2.length : Int) then ((diff_front_at.f (rd_L1 l2 (ji23)) (wrap64 ((wrap64 (x8_1 - x9_1)) - 1)) (ji23)).bind fun t115 => ((diff_front_at.f (rd_L1 l2 (ji23)) (wrap64 ((wrap64 (x8_1 - x9_1)) + 1)) (ji23)).bind fun t117 => (if t115 < t117 then (diff_back.l0 kj10 l2 x7_10 x12_4 (wrap64 ((wrap64 (x12_4 - (wrap64 (x8_1 - x9_1)))) - 1)) ji23) else (diff_back.l0 kj10 l2 x7_10 (wrap64 (x12_4 - 1)) (wrap64 (x12_4 - (wrap64 (x8_1 - x9_1)))) ji23)))) else (none)) else (none)) = some r := by first | (rw [hji23] at H; exact H) | (simp only [hji23] at H ⊢; exact H)
           have hji23w : (IntKind.i64.wrap (x10_1 - 1)) = ji23 := (i64_w _).trans hji23
           by_cases c24 : 0 ≤ (ji23)
           ·rw [if_pos c24] at H
            have c24b0 : decide (0 ≤ (ji23)) = true := decide_eq_true c24
            clear c24
            by_cases c25 : (ji23) < (l2.length : Int)
            ·rw [if_pos c25] at H
             have c25b0 : decide ((ji23) < (l2.length : Int)) = true := decide_eq_true c25
             clear c25
             replace H := Option.bind_eq_some_iff.mp H
             obtain ⟨t115, A260, H⟩ := H
             replace H : ((diff_front_at.f (rd_L1 l2 (ji23)) (wrap64 ((wrap64 (x8_1 - x9_1)) + 1)) (ji23)).bind fun t117 => (if t115 < t117 then (diff_back.l0 kj10 l2 x7_10 x12_4 (wrap64 ((wrap64 (x12_4 - (wrap64 (x8_1 - x9_1)))) - 1)) ji23) else (diff_back.l0 kj10 l2 x7_10 (wrap64 (x12_4 - 1)) (wrap64 (x12_4 - (wrap64 (x8_1 - x9_1)))) ji23))) = some r := H
             have A26 := Aside0.mk A260
             clear A260
             replace H := Option.bind_eq_some_iff.mp H
             obtain ⟨t117, A270, H⟩ := H
             replace H : (if t115 < t117 then (diff_back.l0 kj10 l2 x7_10 x12_4 (wrap64 ((wrap64 (x12_4 - (wrap64 (x8_1 - x9_1)))) - 1)) ji23) else (diff_back.l0 kj10 l2 x7_10 (wrap64 (x12_4 - 1)) (wrap64 (x12_4 - (wrap64 (x8_1 - x9_1)))) ji23)) = some r := H
             have A27 := Aside0.mk A270
             clear A270
             by_cases c28 : t115 < t117
             ·rw [if_pos c28] at H
              have c28b0 : decide (t115 < t117) = true := decide_eq_true c28
              clear c28
              have H' := Aside0.mk H
              clear H
              try go_wp2
              have n0_ := Aside0.mk (Kd.R_drew HO_7.out)
              have n1_ := Aside0.mk (below_drew1 HB.out)
              clear HO_7
              clear HB
              have HO_7 := n0_
              have HB := n1_
              clear n0_ n1_
              have p114 : 0 ≤ ((ji23) : Int) := pxd
              have q114 : (ji23) < (l2.length : Int) := pxd
              obtain ⟨ad114, A114_0, c114_0, e114, hx114_0, hl114_0, hi114_0⟩ := at_L1 HR2.out (ji23) p114 q114
              have hw114_0 := hx114_0
              cases e114
              replace hx114_0 := (HB.out.cell (World.block_lt_of_cell? w _ hx114_0)).trans hx114_0
              have HR114_0 := Aside0.mk hi114_0
              have HC114_0 := Aside0.mk hl114_0
              clear hi114_0 hl114_0
              replace p114 := eq_true p114
              replace q114 := eq_true q114
              have p116 : 0 ≤ ((ji23) : Int) := pxd
              have q116 : (ji23) < (l2.length : Int) := pxd
              obtain ⟨ad116, A116_0, c116_0, e116, hx116_0, hl116_0, hi116_0⟩ := at_L1 HR2.out (ji23) p116 q116
              have hw116_0 := hx116_0
              obtain rfl : ad114 = ad116 := (by injection e116)
              replace hx116_0 := (HB.out.cell (World.block_lt_of_cell? w _ hx116_0)).trans hx116_0
              have HR116_0 := Aside0.mk hi116_0
              have HC116_0 := Aside0.mk hl116_0
              clear hi116_0 hl116_0
              replace p116 := eq_true p116
              replace q116 := eq_true q116
              have ea_ := Option.some.inj (hx114_0.symm.trans hx116_0)
              injection ea_ with ea_ en_ ec_
              subst ea_
              subst ec_
              clear en_
              refine start_ (n := 32) (S := fun w' => w'.cell? (ad114.add ((ji23)).toNat) = some (.slice A114_0 (rd_L1 l2 (ji23)).length c114_0) ∧ w'.cell? (ad114.add ((ji23)).toNat) = some (.slice A114_0 (rd_L1 l2 (ji23)).length c114_0)) (ds := []) #[false, false, false, false, false, false, false, false, false, false, false, false, false, false, false, false, false, false, false, false, false, false, false, false, false, false, false, false, false, false, false, false] (by kernel_rfl) rfl rfl ⟨((HB.out.cell (World.block_lt_of_cell? w _ hw114_0)).trans hw114_0), ((HB.out.cell (World.block_lt_of_cell? w _ hw116_0)).trans hw116_0)⟩ (fun hHeld => ?_); refine with_tabW diff_back.tab14 diff_back.bits14 (fun HT_ HW_ => ?_)
              generalize wc.drew = w29 at HO_7 HB HR114_0 HR116_0 hx114_0 hx116_0 hHeld ⊢
              refine pS 0 57 HT_ ?_
              refine pS 1 58 HT_ ?_
              refine pS 2 59 HT_ ?_
              refine pS 3 60 HT_ ?_
              refine pS 4 61 HT_ ?_
              refine pS 5 62 HT_ ?_
              refine pS 6 63 HT_ ?_
              refine pS 7 64 HT_ ?_
              refine pS 8 65 HT_ ?_
              refine pS 9 66 HT_ ?_
              refine pS 10 67 HT_ ?_
              refine pS 11 68 HT_ ?_
              refine pS 12 69 HT_ ?_
              refine pS 14 71 HT_ ?_
              refine pS 15 72 HT_ ?_
              refine pS 16 73 HT_ ?_
              refine pS 17 74 HT_ ?_
              refine pS 19 76 HT_ ?_
              refine pS 20 77 HT_ ?_
              refine pS 21 78 HT_ ?_
              refine pS 22 79 HT_ ?_
              refine pS 24 81 HT_ ?_
              refine pS 25 82 HT_ ?_
              refine pS 26 83 HT_ ?_
              refine pS 27 84 HT_ ?_
              refine tS 13 70 HT_ HW_ hHeld ?_
              refine tS 23 80 HT_ HW_ hHeld ?_
              refine oS 18 HT_ (fun K hK => ?_)
              refine goes_ Try.func47 (by kernel_rfl) rfl #[.slice A114_0 (rd_L1 l2 (ji23)).length c114_0, .int .i64 (wrap64 ((wrap64 (x8_1 - x9_1)) - 1)), .int .i64 ji23] (by rfl) rfl rfl (by (try simp only [List.map_toArray, List.map_cons, List.map_nil]); first | done | (simp only [hji23]; rfl) | rfl | (simp only [List.length_drop, List.length_take]; rfl)) ?_
              with_reducible refine (diff_front_at.calls _ _ (rd_L1 l2 (ji23)) (wrap64 ((wrap64 (x8_1 - x9_1)) - 1)) ji23 t115 _ ?side1 ?side2 A26.out).mono ?_
              (case side1 => exact pxc HR114_0 HB)
              (case side2 => exact HC114_0.out)
              rintro e w' ⟨rfl, ⟨nd, rfl⟩⟩
              refine ⟨_, rfl, ?_⟩
              refine hK.out _ _ ⟨((HB.out.cell (World.block_lt_of_cell? w _ hw114_0)).trans hw114_0), ((HB.out.cell (World.block_lt_of_cell? w _ hw116_0)).trans hw116_0)⟩ (fun hHeld => ?_)
              clear hK K
              refine nS 75 ?_
              refine oS 28 HT_ (fun K hK => ?_)
              refine goes_ Try.func47 (by kernel_rfl) rfl #[.slice A114_0 (rd_L1 l2 (ji23)).length c114_0, .int .i64 (wrap64 ((wrap64 (x8_1 - x9_1)) + 1)), .int .i64 ji23] (by rfl) rfl rfl (by (try simp only [List.map_toArray, List.map_cons, List.map_nil]); first | done | (simp only [hji23]; rfl) | rfl | (simp only [List.length_drop, List.length_take]; rfl)) ?_
              with_reducible refine (diff_front_at.calls _ _ (rd_L1 l2 (ji23)) (wrap64 ((wrap64 (x8_1 - x9_1)) + 1)) ji23 t117 _ ?side1 ?side2 A27.out).mono ?_
              (case side1 => repeat (first | exact (Kd.C_below HR116_0.out (pxb HB)) | (with_reducible refine Kd.C_alloc ?_ _) | (with_reducible refine Kd.C_drewN ?_ _) | (with_reducible refine Kd.C_drew ?_)))
              (case side2 => exact HC116_0.out)
              rintro e w' ⟨rfl, ⟨nd, rfl⟩⟩
              refine ⟨_, rfl, ?_⟩
              refine hK.out _ _ ⟨((HB.out.cell (World.block_lt_of_cell? w _ hw114_0)).trans hw114_0), ((HB.out.cell (World.block_lt_of_cell? w _ hw116_0)).trans hw116_0)⟩ (fun hHeld => ?_)
              clear hK K
              refine nS 85 ?_
              refine pS 29 86 HT_ ?_
              refine pS 30 87 HT_ ?_
              refine pS 31 88 HT_ ?_
              refine done_ (done_of HT_.out (by kernel_rfl)) ?_
              try go_wp2
              go_roundg kj10
              case measure => have := HK1.out; have := HJ4.out; have := HJ10.out; omega
              case rel => exact ⟨(x7_10), (x12_4), (wrap64 ((wrap64 (x12_4 - (wrap64 (x8_1 - x9_1)))) - 1)), (ji23), (by first | rfl | (simp; done) | (simp [*]; done)), (by first | rfl | (simp; done) | (simp [*]; done)), (by first | rfl | (simp; done) | (simp only [← hji23] <;> (first | rfl | simp)) | (simp [*]; done)), H', ⟨by have := HK1.out; have := HJ4.out; have := HJ10.out; omega⟩, ⟨pxr HO_7⟩, ⟨pxb HB⟩⟩
             ·rw [if_neg c28] at H
              have c28b0 : decide (t115 < t117) = false := decide_eq_false c28
              clear c28
              have H' := Aside0.mk H
              clear H
              try go_wp2
              have n0_ := Aside0.mk (Kd.R_drew HO_7.out)
              have n1_ := Aside0.mk (below_drew1 HB.out)
              clear HO_7
              clear HB
              have HO_7 := n0_
              have HB := n1_
              clear n0_ n1_
              have p114 : 0 ≤ ((ji23) : Int) := pxd
              have q114 : (ji23) < (l2.length : Int) := pxd
              obtain ⟨ad114, A114_0, c114_0, e114, hx114_0, hl114_0, hi114_0⟩ := at_L1 HR2.out (ji23) p114 q114
              have hw114_0 := hx114_0
              cases e114
              replace hx114_0 := (HB.out.cell (World.block_lt_of_cell? w _ hx114_0)).trans hx114_0
              have HR114_0 := Aside0.mk hi114_0
              have HC114_0 := Aside0.mk hl114_0
              clear hi114_0 hl114_0
              replace p114 := eq_true p114
              replace q114 := eq_true q114
              have p116 : 0 ≤ ((ji23) : Int) := pxd
              have q116 : (ji23) < (l2.length : Int) := pxd
              obtain ⟨ad116, A116_0, c116_0, e116, hx116_0, hl116_0, hi116_0⟩ := at_L1 HR2.out (ji23) p116 q116
              have hw116_0 := hx116_0
              obtain rfl : ad114 = ad116 := (by injection e116)
              replace hx116_0 := (HB.out.cell (World.block_lt_of_cell? w _ hx116_0)).trans hx116_0
              have HR116_0 := Aside0.mk hi116_0
              have HC116_0 := Aside0.mk hl116_0
              clear hi116_0 hl116_0
              replace p116 := eq_true p116
              replace q116 := eq_true q116
              have ea_ := Option.some.inj (hx114_0.symm.trans hx116_0)
              injection ea_ with ea_ en_ ec_
              subst ea_
              subst ec_
              clear en_
              refine start_ (n := 32) (S := fun w' => w'.cell? (ad114.add ((ji23)).toNat) = some (.slice A114_0 (rd_L1 l2 (ji23)).length c114_0) ∧ w'.cell? (ad114.add ((ji23)).toNat) = some (.slice A114_0 (rd_L1 l2 (ji23)).length c114_0)) (ds := []) #[false, false, false, false, false, false, false, false, false, false, false, false, false, false, false, false, false, false, false, false, false, false, false, false, false, false, false, false, false, false, false, false] (by kernel_rfl) rfl rfl ⟨((HB.out.cell (World.block_lt_of_cell? w _ hw114_0)).trans hw114_0), ((HB.out.cell (World.block_lt_of_cell? w _ hw116_0)).trans hw116_0)⟩ (fun hHeld => ?_); refine with_tabW diff_back.tab14 diff_back.bits14 (fun HT_ HW_ => ?_)
              generalize wc.drew = w30 at HO_7 HB HR114_0 HR116_0 hx114_0 hx116_0 hHeld ⊢
              refine pS 0 57 HT_ ?_
              refine pS 1 58 HT_ ?_
              refine pS 2 59 HT_ ?_
              refine pS 3 60 HT_ ?_
              refine pS 4 61 HT_ ?_
              refine pS 5 62 HT_ ?_
              refine pS 6 63 HT_ ?_
              refine pS 7 64 HT_ ?_
              refine pS 8 65 HT_ ?_
              refine pS 9 66 HT_ ?_
              refine pS 10 67 HT_ ?_
              refine pS 11 68 HT_ ?_
              refine pS 12 69 HT_ ?_
              refine pS 14 71 HT_ ?_
              refine pS 15 72 HT_ ?_
              refine pS 16 73 HT_ ?_
              refine pS 17 74 HT_ ?_
              refine pS 19 76 HT_ ?_
              refine pS 20 77 HT_ ?_
              refine pS 21 78 HT_ ?_
              refine pS 22 79 HT_ ?_
              refine pS 24 81 HT_ ?_
              refine pS 25 82 HT_ ?_
              refine pS 26 83 HT_ ?_
              refine pS 27 84 HT_ ?_
              refine tS 13 70 HT_ HW_ hHeld ?_
              refine tS 23 80 HT_ HW_ hHeld ?_
              refine oS 18 HT_ (fun K hK => ?_)
              refine goes_ Try.func47 (by kernel_rfl) rfl #[.slice A114_0 (rd_L1 l2 (ji23)).length c114_0, .int .i64 (wrap64 ((wrap64 (x8_1 - x9_1)) - 1)), .int .i64 ji23] (by rfl) rfl rfl (by (try simp only [List.map_toArray, List.map_cons, List.map_nil]); first | done | (simp only [hji23]; rfl) | rfl | (simp only [List.length_drop, List.length_take]; rfl)) ?_
              with_reducible refine (diff_front_at.calls _ _ (rd_L1 l2 (ji23)) (wrap64 ((wrap64 (x8_1 - x9_1)) - 1)) ji23 t115 _ ?side1 ?side2 A26.out).mono ?_
              (case side1 => exact pxc HR114_0 HB)
              (case side2 => exact HC114_0.out)
              rintro e w' ⟨rfl, ⟨nd, rfl⟩⟩
              refine ⟨_, rfl, ?_⟩
              refine hK.out _ _ ⟨((HB.out.cell (World.block_lt_of_cell? w _ hw114_0)).trans hw114_0), ((HB.out.cell (World.block_lt_of_cell? w _ hw116_0)).trans hw116_0)⟩ (fun hHeld => ?_)
              clear hK K
              refine nS 75 ?_
              refine oS 28 HT_ (fun K hK => ?_)
              refine goes_ Try.func47 (by kernel_rfl) rfl #[.slice A114_0 (rd_L1 l2 (ji23)).length c114_0, .int .i64 (wrap64 ((wrap64 (x8_1 - x9_1)) + 1)), .int .i64 ji23] (by rfl) rfl rfl (by (try simp only [List.map_toArray, List.map_cons, List.map_nil]); first | done | (simp only [hji23]; rfl) | rfl | (simp only [List.length_drop, List.length_take]; rfl)) ?_
              with_reducible refine (diff_front_at.calls _ _ (rd_L1 l2 (ji23)) (wrap64 ((wrap64 (x8_1 - x9_1)) + 1)) ji23 t117 _ ?side1 ?side2 A27.out).mono ?_
              (case side1 => repeat (first | exact (Kd.C_below HR116_0.out (pxb HB)) | (with_reducible refine Kd.C_alloc ?_ _) | (with_reducible refine Kd.C_drewN ?_ _) | (with_reducible refine Kd.C_drew ?_)))
              (case side2 => exact HC116_0.out)
              rintro e w' ⟨rfl, ⟨nd, rfl⟩⟩
              refine ⟨_, rfl, ?_⟩
              refine hK.out _ _ ⟨((HB.out.cell (World.block_lt_of_cell? w _ hw114_0)).trans hw114_0), ((HB.out.cell (World.block_lt_of_cell? w _ hw116_0)).trans hw116_0)⟩ (fun hHeld => ?_)
              clear hK K
              refine nS 85 ?_
              refine pS 29 86 HT_ ?_
              refine pS 30 87 HT_ ?_
              refine pS 31 88 HT_ ?_
              refine done_ (done_of HT_.out (by kernel_rfl)) ?_
              try go_wp2
              go_roundg kj10
              case measure => have := HK1.out; have := HJ4.out; have := HJ10.out; omega
              case rel => exact ⟨(x7_10), (wrap64 (x12_4 - 1)), (wrap64 (x12_4 - (wrap64 (x8_1 - x9_1)))), (ji23), (by first | rfl | (simp; done) | (simp [*]; done)), (by first | rfl | (simp; done) | (simp [*]; done)), (by first | rfl | (simp; done) | (simp only [← hji23] <;> (first | rfl | simp)) | (simp [*]; done)), H', ⟨by have := HK1.out; have := HJ4.out; have := HJ10.out; omega⟩, ⟨pxr HO_7⟩, ⟨pxb HB⟩⟩
            ·rw [if_neg c25] at H
             exact absurd H (by simp)
           ·rw [if_neg c24] at H
            exact absurd H (by simp)
   ·rw [if_neg c4] at H
    have c4b0 : decide (0 ≤ x10_1) = false := decide_eq_false c4
    clear c4
    obtain rfl := Option.some.inj H
    go_wp2
    go_ret
    exact ⟨_, by first | rfl | (simp [errW_none, errW_some] <;> rfl) | (simp [*, errW_none, errW_some] <;> rfl), pxr HO_7, pxb HB⟩

end Go.Proofs.Ytoljmjhmieaggaa.X
