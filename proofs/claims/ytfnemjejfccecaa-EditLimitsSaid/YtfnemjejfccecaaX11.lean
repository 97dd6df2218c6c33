/- What the program's functions answer, as Lean functions, and that each call does just that; no condition. Written by a program (px.py) out of the translation. -/
import Derived.Test.YtfnemjejfccecaaX0
import Derived.Test.YtfnemjejfccecaaX31
import Derived.Test.YtfnemjejfccecaaX29
namespace Go.Proofs.Ytfnemjejfccecaa.X
open Go.RowKit Go.Proofs.YtfnemjejfccecaaW.PrintWords Go.Proofs.YtfnemjejfccecaaW.PrintLast Go.Proofs.YtfnemjejfccecaaW.PrintMore
attribute [local go_sem] max2_int min2_int max_two min_two max_three min_three max_four min_four   -- for this text's walks alone
set_option linter.unusedVariables false
set_option linter.unusedSimpArgs false

/-! ### caulkerlaw03_EditLimits: function 11 -/
mutual
def caulkerlaw03_EditLimits.j0 : Nat → Int → Int → Bool → Option (Bool)
 | 0, _, _, _ => none
 | k + 1, x0, x1, x29 => if x29 = true then (some true) else (if 5000 ≤ 281474976710656 then (caulkerlaw03_EditLimits.l0 k x0 x1 (strOfNums (List.replicate 5000 0)) ([] : List (S60)) x0 0) else (none))
def caulkerlaw03_EditLimits.l0 : Nat → Int → Int → ByteArray → List (S60) → Int → Int → Option (Bool)
 | 0, _, _, _, _, _, _ => none
 | k + 1, x0, x1, x5, x6, x32, x33 => if x33 < x32 then (if x6.length < 4398046511104 then (caulkerlaw03_EditLimits.l0 k x0 x1 x5 (x6 ++ [(⟨(⟨x33, x33⟩ : S24), (⟨#[120]⟩ : ByteArray)⟩ : S60)]) x32 (wrap64 (x33 + 1))) else (none)) else (if x0 > 4096 then (caulkerlaw03_EditLimits.j2 k x0 x1 x5 x6 2) else (caulkerlaw03_EditLimits.j2 k x0 x1 x5 x6 0))
def caulkerlaw03_EditLimits.j2 : Nat → Int → Int → ByteArray → List (S60) → Int → Option (Bool)
 | 0, _, _, _, _, _ => none
 | k + 1, x0, x1, x5, x6, x8 => (edit_Apply.f k x5 x6).bind fun bt370 => (if bt370.2 = x8 then (if bt370.2 = 0 then (caulkerlaw03_EditLimits.j3 k x1 x5 ((bt370.1.size : Int) != (wrap64 (5000 + x0)))) else (caulkerlaw03_EditLimits.j3 k x1 x5 false)) else (caulkerlaw03_EditLimits.j3 k x1 x5 true))
def caulkerlaw03_EditLimits.j3 : Nat → Int → ByteArray → Bool → Option (Bool)
 | 0, _, _, _ => none
 | k + 1, x1, x5, x65 => if x65 = true then (some false) else (if 0 ≤ x1 then (if (x1 : Int).toNat ≤ 281474976710656 then ((edit_Apply.f k x5 (([(⟨(⟨0, 0⟩ : S24), strOfNums (List.replicate (x1 : Int).toNat 0)⟩ : S60)] : List (S60)))).bind fun bt379 => (if x1 > 60536 then (if bt379.2 = 2 then (some (bt379.1.toList == ([] : List UInt8))) else (some false)) else (if bt379.2 = 0 then (some ((bt379.1.size : Int) == (wrap64 (5000 + x1)))) else (some false)))) else (none)) else (none))
end
def caulkerlaw03_EditLimits.f (k : Nat) (a0 : Int) (a1 : Int) : Option (Bool) := (caulkerlaw03_edits.f k).bind fun t363 => (if t363 = true then (if a0 < 0 then (caulkerlaw03_EditLimits.j0 k a0 a1 true) else (if a0 > 4200 then (caulkerlaw03_EditLimits.j0 k a0 a1 true) else (if a1 < 0 then (caulkerlaw03_EditLimits.j0 k a0 a1 true) else (caulkerlaw03_EditLimits.j0 k a0 a1 (decide (a1 > 70000)))))) else (some false))
theorem caulkerlaw03_EditLimits.mono_l : ∀ k, (∀ y0 y1 y2, LeO (caulkerlaw03_EditLimits.j0 k y0 y1 y2) (caulkerlaw03_EditLimits.j0 (k + 1) y0 y1 y2)) ∧ (∀ y0 y1 y2 y3 y4 y5, LeO (caulkerlaw03_EditLimits.l0 k y0 y1 y2 y3 y4 y5) (caulkerlaw03_EditLimits.l0 (k + 1) y0 y1 y2 y3 y4 y5)) ∧ (∀ y0 y1 y2 y3 y4, LeO (caulkerlaw03_EditLimits.j2 k y0 y1 y2 y3 y4) (caulkerlaw03_EditLimits.j2 (k + 1) y0 y1 y2 y3 y4)) ∧ (∀ y0 y1 y2, LeO (caulkerlaw03_EditLimits.j3 k y0 y1 y2) (caulkerlaw03_EditLimits.j3 (k + 1) y0 y1 y2))
 | 0 => ⟨fun _ _ _ r h => by simp [caulkerlaw03_EditLimits.j0] at h, fun _ _ _ _ _ _ r h => by simp [caulkerlaw03_EditLimits.l0] at h, fun _ _ _ _ _ r h => by simp [caulkerlaw03_EditLimits.j2] at h, fun _ _ _ r h => by simp [caulkerlaw03_EditLimits.j3] at h⟩
 | k + 1 => by
  obtain ⟨ih0, ih1, ih2, ih3⟩ := caulkerlaw03_EditLimits.mono_l k
  refine ⟨?_, ?_, ?_, ?_⟩
  ·intro y0 y1 y2
   unfold caulkerlaw03_EditLimits.j0
   repeat' first
   | (with_reducible exact ih0 _ _ _)
   | (with_reducible exact ih1 _ _ _ _ _ _)
   | (with_reducible exact ih2 _ _ _ _ _)
   | (with_reducible exact ih3 _ _ _)
   | (with_reducible exact caulkerlaw03_edits.mono _)
   | (with_reducible exact edit_Apply.mono _ _ _)
   | (with_reducible exact LeO.refl _)
   | (with_reducible exact LeO.none _)
   | (with_reducible refine LeO.ite ?_ ?_)
   | (with_reducible refine LeO.bind ?_ (fun _ => ?_))
   | exact ih0 _ _ _
   | exact ih1 _ _ _ _ _ _
   | exact ih2 _ _ _ _ _
   | exact ih3 _ _ _
   | exact caulkerlaw03_edits.mono _
   | exact edit_Apply.mono _ _ _
   | exact LeO.none _
   | refine LeO.ite ?_ ?_
   | refine LeO.bind ?_ (fun _ => ?_)
  ·intro y0 y1 y2 y3 y4 y5
   unfold caulkerlaw03_EditLimits.l0
   repeat' first
   | (with_reducible exact ih0 _ _ _)
   | (with_reducible exact ih1 _ _ _ _ _ _)
   | (with_reducible exact ih2 _ _ _ _ _)
   | (with_reducible exact ih3 _ _ _)
   | (with_reducible exact caulkerlaw03_edits.mono _)
   | (with_reducible exact edit_Apply.mono _ _ _)
   | (with_reducible exact LeO.refl _)
   | (with_reducible exact LeO.none _)
   | (with_reducible refine LeO.ite ?_ ?_)
   | (with_reducible refine LeO.bind ?_ (fun _ => ?_))
   | exact ih0 _ _ _
   | exact ih1 _ _ _ _ _ _
   | exact ih2 _ _ _ _ _
   | exact ih3 _ _ _
   | exact caulkerlaw03_edits.mono _
   | exact edit_Apply.mono _ _ _
   | exact LeO.none _
   | refine LeO.ite ?_ ?_
   | refine LeO.bind ?_ (fun _ => ?_)
  ·intro y0 y1 y2 y3 y4
   unfold caulkerlaw03_EditLimits.j2
   repeat' first
   | (with_reducible exact ih0 _ _ _)
   | (with_reducible exact ih1 _ _ _ _ _ _)
   | (with_reducible exact ih2 _ _ _ _ _)
   | (with_reducible exact ih3 _ _ _)
   | (with_reducible exact caulkerlaw03_edits.mono _)
   | (with_reducible exact edit_Apply.mono _ _ _)
   | (with_reducible exact LeO.refl _)
   | (with_reducible exact LeO.none _)
   | (with_reducible refine LeO.ite ?_ ?_)
   | (with_reducible refine LeO.bind ?_ (fun _ => ?_))
   | exact ih0 _ _ _
   | exact ih1 _ _ _ _ _ _
   | exact ih2 _ _ _ _ _
   | exact ih3 _ _ _
   | exact caulkerlaw03_edits.mono _
   | exact edit_Apply.mono _ _ _
   | exact LeO.none _
   | refine LeO.ite ?_ ?_
   | refine LeO.bind ?_ (fun _ => ?_)
  ·intro y0 y1 y2
   unfold caulkerlaw03_EditLimits.j3
   repeat' first
   | (with_reducible exact ih0 _ _ _)
   | (with_reducible exact ih1 _ _ _ _ _ _)
   | (with_reducible exact ih2 _ _ _ _ _)
   | (with_reducible exact ih3 _ _ _)
   | (with_reducible exact caulkerlaw03_edits.mono _)
   | (with_reducible exact edit_Apply.mono _ _ _)
   | (with_reducible exact LeO.refl _)
   | (with_reducible exact LeO.none _)
   | (with_reducible refine LeO.ite ?_ ?_)
   | (with_reducible refine LeO.bind ?_ (fun _ => ?_))
   | exact ih0 _ _ _
   | exact ih1 _ _ _ _ _ _
   | exact ih2 _ _ _ _ _
   | exact ih3 _ _ _
   | exact caulkerlaw03_edits.mono _
   | exact edit_Apply.mono _ _ _
   | exact LeO.none _
   | refine LeO.ite ?_ ?_
   | refine LeO.bind ?_ (fun _ => ?_)
theorem caulkerlaw03_EditLimits.mono : ∀ a0 a1 k, LeO (caulkerlaw03_EditLimits.f k a0 a1) (caulkerlaw03_EditLimits.f (k + 1) a0 a1) := by
 intro a0 a1 k
 obtain ⟨ih0, ih1, ih2, ih3⟩ := caulkerlaw03_EditLimits.mono_l k
 unfold caulkerlaw03_EditLimits.f
 repeat' first
   | (with_reducible exact ih0 _ _ _)
   | (with_reducible exact ih1 _ _ _ _ _ _)
   | (with_reducible exact ih2 _ _ _ _ _)
   | (with_reducible exact ih3 _ _ _)
   | (with_reducible exact caulkerlaw03_edits.mono _)
   | (with_reducible exact edit_Apply.mono _ _ _)
   | (with_reducible exact LeO.refl _)
   | (with_reducible exact LeO.none _)
   | (with_reducible refine LeO.ite ?_ ?_)
   | (with_reducible refine LeO.bind ?_ (fun _ => ?_))
   | exact ih0 _ _ _
   | exact ih1 _ _ _ _ _ _
   | exact ih2 _ _ _ _ _
   | exact ih3 _ _ _
   | exact caulkerlaw03_edits.mono _
   | exact edit_Apply.mono _ _ _
   | exact LeO.none _
   | refine LeO.ite ?_ ?_
   | refine LeO.bind ?_ (fun _ => ?_)
set_option maxHeartbeats 8000000 in
set_option maxRecDepth 100000 in
theorem caulkerlaw03_EditLimits.calls (k : Nat) (a0 : Int) (a1 : Int) (r : Bool) (w : World) (h : caulkerlaw03_EditLimits.f k a0 a1 = some r) :
  Calls Try.prog 11 #[.int .i64 a0, .int .i64 a1] w fun e w' => e = .returned (.bool r) ∧ Below w.heap.size w w' := by
 have hu24 := Try.underlying24
 have hu60 := Try.underlying60
 have HB := Aside0.mk (Below.refl w.heap.size w)
 have H : ((caulkerlaw03_edits.f k).bind fun t363 => (if t363 = true then (if a0 < 0 then (caulkerlaw03_EditLimits.j0 k a0 a1 true) else (if a0 > 4200 then (caulkerlaw03_EditLimits.j0 k a0 a1 true) else (if a1 < 0 then (caulkerlaw03_EditLimits.j0 k a0 a1 true) else (caulkerlaw03_EditLimits.j0 k a0 a1 (decide (a1 > 70000)))))) else (some false))) = some r := h
 clear h
 replace H := Option.bind_eq_some_iff.mp H
 obtain ⟨t363, A30, H⟩ := H
 replace H : (if t363 = true then (if a0 < 0 then (caulkerlaw03_EditLimits.j0 k a0 a1 true) else (if a0 > 4200 then (caulkerlaw03_EditLimits.j0 k a0 a1 true) else (if a1 < 0 then (caulkerlaw03_EditLimits.j0 k a0 a1 true) else (caulkerlaw03_EditLimits.j0 k a0 a1 (decide (a1 > 70000)))))) else (some false)) = some r := H
 have A3 := Aside0.mk A30
 clear A30
 by_cases c4 : t363 = true
 ·subst c4
  have H1 : (if a0 < 0 then (caulkerlaw03_EditLimits.j0 k a0 a1 true) else (if a0 > 4200 then (caulkerlaw03_EditLimits.j0 k a0 a1 true) else (if a1 < 0 then (caulkerlaw03_EditLimits.j0 k a0 a1 true) else (caulkerlaw03_EditLimits.j0 k a0 a1 (decide (a1 > 70000)))))) = some r := by rw [if_pos rfl] at H; exact H
  clear H
  have H := H1
  clear H1
  have HC5 := Aside0.mk H
  clear H
  go_enter Try.func11, Try.ntmps11
  go_upto_region 3 with (first | ((with_reducible refine gate_callee (f := 29) rfl ?_); refine goesL_ (some 14) rfl rfl Try.func29 (by kernel_rfl) rfl #[] rfl (by (try simp only [List.map_toArray, List.map_cons, List.map_nil]); first | done | rfl | (simp only [List.length_drop, List.length_take]; rfl)) ?_; (with_reducible refine (caulkerlaw03_edits.calls k  true _ A3.out).mono ?_); rintro e w6 ⟨rfl, hb⟩; refine ⟨_, rfl, ?_⟩; have n0_ := pxs HB hb; clear HB; have HB := n0_; clear n0_; (try clear hb); (try clear hb2); (try clear hk); (try clear hi)))
  (try simp only [Act.put, List.setIfInBounds_toArray, List.set_cons_zero, List.set_cons_succ])
  go_cut [29] (fun v29 wc => ∃ (kq : Nat) (x29_4 : Bool), v29 = .bool x29_4 ∧ Aside0 (caulkerlaw03_EditLimits.j0 kq a0 a1 x29_4 = some r) ∧ Aside0 (kq ≤ k) ∧ Aside0 (Below w.heap.size w wc))
  case first =>
   have H := HC5.out
   clear HC5
   by_cases c7 : a0 < 0
   ·rw [if_pos c7] at H
    have c7b0 : decide (a0 < 0) = true := decide_eq_true c7
    clear c7
    (first | rw [c7b0] | (simp only [i64_w, i32_w]; rw [c7b0]) | skip)
    have H' := Aside0.mk H
    clear H
    go_wp2
    go_meet
    case rel => exact ⟨_, (true), (by first | rfl | (simp; done) | (simp [*]; done)), H', ⟨by first | omega | exact Nat.le_refl _⟩, ⟨pxb HB⟩⟩
   ·rw [if_neg c7] at H
    have c7b0 : decide (a0 < 0) = false := decide_eq_false c7
    clear c7
    (first | rw [c7b0] | (simp only [i64_w, i32_w]; rw [c7b0]) | skip)
    by_cases c8 : a0 > 4200
    ·rw [if_pos c8] at H
     have c8b0 : decide (4200 < a0) = true := decide_eq_true c8
     clear c8
     have H' := Aside0.mk H
     clear H
     go_wp2
     go_meet
     case rel => exact ⟨_, (true), (by first | rfl | (simp; done) | (simp [*]; done)), H', ⟨by first | omega | exact Nat.le_refl _⟩, ⟨pxb HB⟩⟩
    ·rw [if_neg c8] at H
     have c8b0 : decide (4200 < a0) = false := decide_eq_false c8
     clear c8
     by_cases c9 : a1 < 0
     ·rw [if_pos c9] at H
      have c9b0 : decide (a1 < 0) = true := decide_eq_true c9
      clear c9
      have H' := Aside0.mk H
      clear H
      go_wp2
      go_meet
      case rel => exact ⟨_, (true), (by first | rfl | (simp; done) | (simp [*]; done)), H', ⟨by first | omega | exact Nat.le_refl _⟩, ⟨pxb HB⟩⟩
     ·rw [if_neg c9] at H
      have c9b0 : decide (a1 < 0) = false := decide_eq_false c9
      clear c9
      have H' := Aside0.mk H
      clear H
      go_wp2
      go_meet
      case rel => exact ⟨_, (decide (a1 > 70000)), (by first | rfl | (simp; done) | (simp [*]; done)), H', ⟨by first | omega | exact Nat.le_refl _⟩, ⟨pxb HB⟩⟩
  case rest =>
   clear HC5
   try clear c1
   try clear c2
   try clear p2
   try clear c4
   try clear c7
   try clear c7b0
   try clear c8
   try clear c8b0
   try clear c9
   try clear c9b0
   obtain ⟨kq, x29_4, rfl, HA, HJ4, HB⟩ := hcut
   cases kq with
   | zero => exact absurd HA.out (by simp [caulkerlaw03_EditLimits.j0])
   | succ kj4 =>
    have H := HA.out
    clear HA
    simp only [caulkerlaw03_EditLimits.j0] at H
    by_cases c10 : x29_4 = true
    ·subst c10
     have H1 : (some true) = some r := by rw [if_pos rfl] at H; exact H
     clear H
     have H := H1
     clear H1
     obtain rfl := Option.some.inj H
     go_wp2
     go_ret
     exact ⟨by first | rfl | (simp [errW_none, errW_some] <;> rfl) | (simp [*, errW_none, errW_some] <;> rfl), pxb HB⟩
    ·replace c10 := Bool.eq_false_iff.mpr c10
     subst c10
     have H1 : (if 5000 ≤ 281474976710656 then (caulkerlaw03_EditLimits.l0 kj4 a0 a1 (strOfNums (List.replicate 5000 0)) ([] : List (S60)) a0 0) else (none)) = some r := by rw [if_neg (show ¬ (false = true) by decide)] at H; exact H
     clear H
     have H := H1
     clear H1
     by_cases c11 : 5000 ≤ 281474976710656
     ·rw [if_pos c11] at H
      have c11b0 := eq_true c11
      have c11b1 : decide (5000 ≤ 281474976710656) = true := decide_eq_true c11
      clear c11
      obtain ⟨y364, hy364⟩ : ∃ y_ : List Int, y_ = (List.replicate 5000 0) := ⟨_, rfl⟩
      replace H : (caulkerlaw03_EditLimits.l0 kj4 a0 a1 (strOfNums y364) ([] : List (S60)) a0 0) = some r := by first | (rw [hy364]; with_reducible exact H) | (have H2_ := (Option.bind_some _ _).symm.trans H; rw [hy364]; with_reducible exact H2_) | (have H2_ := (Option.bind_some _ _).symm.trans H; with_reducible exact H2_) | with_reducible exact H | (rw [hy364]; exact H) | exact H
      have Ny364 := Aside0.mk hy364
      clear hy364
      have H' := Aside0.mk H
      clear H
      go_wp2_with (first | ((with_reducible refine gate_dst (N := 30) rfl ?_); (try (refine gate_guard (by rfl) ?_; dsimp only)); refine Kd.R_make (Kd.int .u8) _ 5 rfl (N := 30) rfl 62 _ _ rfl 5000 rfl rfl Try.underlying62 (.int .u8 0) 1 info5 rfl (by decide) (by omega) 0 (ok := fun _ => True) (okp := fun _ => True) rfl (fun _ hk => hk) trivial (by omega) (by omega) (Below.refl _ _) (Nat.le_refl _) ?_; intro v365 w12 ho13 hb hg_ hnew_; clear hg_ hnew_; (first | rw [← Ny364.out] at ho13 | (simp only [Int.reduceToNat] at ho13; rw [← Ny364.out] at ho13)); have n0_ := Aside0.mk (Kd.R_lower ho13 (below_size (pxb HB))); have n1_ := pxs HB hb; clear HB; have HO366 := n0_; have HB := n1_; clear n0_ n1_; clear hb ho13; have hcv14 := own_string (P := Try.prog) Try.underlying62 Try.underlying5 Try.underlying9 (Kd.own_of_R HO366.out)))
      go_loopg [6, 33] kj4 (fun kq v6 v33 w' => ∃ (x6_2 : List (S60)) (x33_2 : Int), v33 = .int .i64 x33_2 ∧ Aside0 (caulkerlaw03_EditLimits.l0 kq a0 a1 (strOfNums y364) x6_2 a0 x33_2 = some r) ∧ Aside0 (kq ≤ kj4) ∧ Aside0 (Kd.R k60 60 w' w.heap.size (fun _ => True) v6 x6_2) ∧ Aside0 (Below w.heap.size w w'))
      case atStart => exact ⟨(([] : List (S60))), (0), (by first | rfl | (simp; done) | (simp [*]; done)), H', ⟨Nat.le_refl _⟩, ⟨by first | exact Kd.R_nil _ _ _ _ _ | exact Kd.N_nil _ _ _ _ _ | exact Kd.V_nil _ _ _ _ _ | exact Kd.Q_nil _ _ _ _ _ | exact Kd.S_nil _ _ _ _ _⟩, ⟨pxb HB⟩⟩
      case round =>
       clear H'
       try clear c1
       try clear hcv1
       try clear c2
       try clear p2
       try clear c4
       try clear c7
       try clear c7b0
       try clear c8
       try clear c8b0
       try clear c9
       try clear c9b0
       try clear c10
       try clear c11
       try clear c11b0
       try clear c11b1
       try clear hcv14
       try clear p2
       obtain ⟨x6_2, x33_2, rfl, HA, HK2, HO_6, HB⟩ := hrel
       cases gk with
       | zero => exact absurd HA.out (by simp [caulkerlaw03_EditLimits.l0])
       | succ k2 =>
        have H := HA.out
        clear HA
        simp only [caulkerlaw03_EditLimits.l0] at H
        by_cases c15 : x33_2 < a0
        ·rw [if_pos c15] at H
         have c15b0 : decide (x33_2 < a0) = true := decide_eq_true c15
         clear c15
         by_cases c16 : x6_2.length < 4398046511104
         ·rw [if_pos c16] at H
          have LMc16 := Aside0.mk c16
          clear c16
          obtain ⟨y367, hy367⟩ : ∃ y_ : List (S60), y_ = (x6_2 ++ [(⟨(⟨x33_2, x33_2⟩ : S24), (⟨#[120]⟩ : ByteArray)⟩ : S60)]) := ⟨_, rfl⟩
          replace H : (caulkerlaw03_EditLimits.l0 k2 a0 a1 (strOfNums y364) y367 a0 (wrap64 (x33_2 + 1))) = some r := by first | (rw [hy367]; with_reducible exact H) | (have H2_ := (Option.bind_some _ _).symm.trans H; rw [hy367]; with_reducible exact H2_) | (have H2_ := (Option.bind_some _ _).symm.trans H; with_reducible exact H2_) | with_reducible exact H | (rw [hy367]; exact H) | exact H
          have Ny367 := Aside0.mk hy367
          clear hy367
          have H' := Aside0.mk H
          clear H
          go_wp2_with (first | ((with_reducible refine gate_builtin (b := .append) (xs := #[.tmp 36, .tmp 41]) rfl ?_); (try (refine gate_guard (by rfl) ?_; dsimp only)); at_builtin; refine Kd.R_append k60 (w0 := w) w.heap.size rfl (.tmp 36) (.tmp 41) 50 60 (.agg #[(.int .i64 0), (.int .i64 0), (.string ⟨#[]⟩)]) 32 rfl Try.underlying50 info60 rfl (by decide) (by omega) u6 x6_2 (⟨(⟨x33_2, x33_2⟩ : S24), (⟨#[120]⟩ : ByteArray)⟩ : S60) [.int .i64 x33_2, .int .i64 x33_2, .string (⟨#[120]⟩ : ByteArray)] (fun _ => True) (fun _ => False) rfl rfl ?aP (fun _ hk => hk.elim) ?aF ?aO ?aB ?aS ?aL ?_; (case aP => exact k60_mkM _ _ _ (⟨(⟨x33_2, x33_2⟩ : S24), (⟨#[120]⟩ : ByteArray)⟩ : S60)); (case aB => exact (pxb HB)); (case aF => exact (fun _ _ => trivial)); (case aO => exact (pxr HO_6)); (case aS => exact (below_size (pxb HB))); (case aL => have := LMc16.out; omega); intro v368 w17 ho hb hg hat; rw [← Ny367.out] at ho; have n0_ := Aside0.mk (hb); have n1_ := Aside0.mk (ho); clear HB; clear HO_6; have HB := n0_; have HO369 := n1_; clear n0_ n1_; clear ho hb hg hat))
          go_roundg k2
          case measure => have := HJ4.out; have := HK2.out; omega
          case rel => exact ⟨(y367), (wrap64 (x33_2 + 1)), (by first | rfl | (simp; done) | (simp [*]; done)), H', ⟨by have := HJ4.out; have := HK2.out; omega⟩, ⟨pxr HO369⟩, ⟨pxb HB⟩⟩
         ·rw [if_neg c16] at H
          exact absurd H (by simp)
        ·rw [if_neg c15] at H
         have c15b0 : decide (x33_2 < a0) = false := decide_eq_false c15
         clear c15
         have HC18 := Aside0.mk H
         clear H
         go_upto_if 45 with (fail)
         go_cut [8] (fun v8 wc => ∃ (kq : Nat) (x8_17 : Int), v8 = .int .i64 x8_17 ∧ Aside0 (caulkerlaw03_EditLimits.j2 kq a0 a1 (strOfNums y364) x6_2 x8_17 = some r) ∧ Aside0 (kq ≤ k2) ∧ Aside0 (Kd.R k60 60 wc w.heap.size (fun _ => True) u6 x6_2) ∧ Aside0 (Below w.heap.size w wc))
         case first =>
          have H := HC18.out
          clear HC18
          by_cases c19 : a0 > 4096
          ·rw [if_pos c19] at H
           have c19b0 : decide (4096 < a0) = true := decide_eq_true c19
           clear c19
           (first | rw [c19b0] | (simp only [i64_w, i32_w]; rw [c19b0]) | skip)
           have H' := Aside0.mk H
           clear H
           go_wp2
           go_meet
           case rel => exact ⟨_, (2), (by first | rfl | (simp; done) | (simp [*]; done)), H', ⟨by have := HJ4.out; have := HK2.out; first | omega | exact Nat.le_refl _⟩, ⟨pxr HO_6⟩, ⟨pxb HB⟩⟩
          ·rw [if_neg c19] at H
           have c19b0 : decide (4096 < a0) = false := decide_eq_false c19
           clear c19
           (first | rw [c19b0] | (simp only [i64_w, i32_w]; rw [c19b0]) | skip)
           have H' := Aside0.mk H
           clear H
           go_wp2
           go_meet
           case rel => exact ⟨_, (0), (by first | rfl | (simp; done) | (simp [*]; done)), H', ⟨by have := HJ4.out; have := HK2.out; first | omega | exact Nat.le_refl _⟩, ⟨pxr HO_6⟩, ⟨pxb HB⟩⟩
         case rest =>
          clear HC18
          try clear c1
          try clear hcv1
          try clear c2
          try clear p2
          try clear c4
          try clear p6
          try clear c7
          try clear c7b0
          try clear c8
          try clear c8b0
          try clear c9
          try clear c9b0
          try clear c10
          try clear c11
          try clear c11b0
          try clear c11b1
          try clear hcv14
          try clear c15
          try clear c15b0
          try clear c16
          try clear c19
          try clear c19b0
          try clear p2
          obtain ⟨kq, x8_17, rfl, HA, HJ17, HO_6, HB⟩ := hcut
          cases kq with
          | zero => exact absurd HA.out (by simp [caulkerlaw03_EditLimits.j2])
          | succ kj17 =>
           have H := HA.out
           clear HA
           simp only [caulkerlaw03_EditLimits.j2] at H
           replace H := Option.bind_eq_some_iff.mp H
           obtain ⟨⟨t370, t371⟩, A200, H⟩ := H
           replace H : (if t371 = x8_17 then (if t371 = 0 then (caulkerlaw03_EditLimits.j3 kj17 a1 (strOfNums y364) ((t370.size : Int) != (wrap64 (5000 + a0)))) else (caulkerlaw03_EditLimits.j3 kj17 a1 (strOfNums y364) false)) else (caulkerlaw03_EditLimits.j3 kj17 a1 (strOfNums y364) true)) = some r := H
           have A20 := Aside0.mk A200
           clear A200
           have HC21 := Aside0.mk H
           clear H
           obtain ⟨Ao22, co22, eo22⟩ := Kd.R_slice HO_6.out
           subst eo22
           go_upto_region 16 with (first | ((with_reducible refine gate_callee (f := 31) rfl ?_); refine goesL_ (some 49) rfl rfl Try.func31 (by kernel_rfl) rfl #[.string (strOfNums y364), .slice Ao22 x6_2.length co22] rfl (by (try simp only [List.map_toArray, List.map_cons, List.map_nil]); first | done | rfl | (simp only [List.length_drop, List.length_take]; rfl)) ?_; (with_reducible refine (edit_Apply.calls kj17 (strOfNums y364) _ _ x6_2 t370 t371 _ ?side1 ?side2 A20.out).mono ?_); (case side1 => repeat (first | exact (Kd.R_reads' HO_6.out).2.2 | (with_reducible refine Kd.C_alloc ?_ _) | (with_reducible refine Kd.C_drewN ?_ _) | (with_reducible refine Kd.C_drew ?_))); (case side2 => exact (Kd.R_reads' HO_6.out).2.1); rintro e w23 ⟨rfl, hb⟩; refine ⟨_, rfl, ?_⟩; have n0_ := Aside0.mk (Kd.R_below (pxr HO_6) hb); have n1_ := pxs HB hb; clear HO_6; clear HB; have HO_6 := n0_; have HB := n1_; clear n0_ n1_; (try clear hb); (try clear hb2); (try clear hk); (try clear hi)))
           (try simp only [Act.put, List.setIfInBounds_toArray, List.set_cons_zero, List.set_cons_succ])
           go_cut [65] (fun v65 wc => ∃ (kq : Nat) (x65_20 : Bool), v65 = .bool x65_20 ∧ Aside0 (caulkerlaw03_EditLimits.j3 kq a1 (strOfNums y364) x65_20 = some r) ∧ Aside0 (kq ≤ kj17) ∧ Aside0 (Below w.heap.size w wc))
           case first =>
            have H := HC21.out
            clear HC21
            by_cases c24 : t371 = x8_17
            ·rw [if_pos c24] at H
             have c24b0 : (t371 == x8_17) = true := beq_iff_eq.mpr c24
             have c24b1 : (t371 != x8_17) = false := bne_eq_false_iff_eq.mpr c24
             clear c24
             (first | rw [c24b0] | (simp only [i64_w, i32_w]; rw [c24b0]) | skip)
             by_cases c25 : t371 = 0
             ·rw [if_pos c25] at H
              have c25b0 : (t371 == 0) = true := beq_iff_eq.mpr c25
              have c25b1 : (t371 != 0) = false := bne_eq_false_iff_eq.mpr c25
              clear c25
              have H' := Aside0.mk H
              clear H
              go_wp2
              go_meet
              case rel => exact ⟨_, (((t370.size : Int) != (wrap64 (5000 + a0)))), (by first | rfl | (simp; done) | (simp [*]; done)), H', ⟨by have := HJ4.out; have := HK2.out; have := HJ17.out; first | omega | exact Nat.le_refl _⟩, ⟨pxb HB⟩⟩
             ·rw [if_neg c25] at H
              have c25b0 : (t371 == 0) = false := beq_eq_false_iff_ne.mpr c25
              have c25b1 : (t371 != 0) = true := bne_iff_ne.mpr c25
              have H' := Aside0.mk H
              clear H
              go_wp2
              go_meet
              case rel => exact ⟨_, (false), (by first | rfl | (simp; done) | (simp [*]; done)), H', ⟨by have := HJ4.out; have := HK2.out; have := HJ17.out; first | omega | exact Nat.le_refl _⟩, ⟨pxb HB⟩⟩
            ·rw [if_neg c24] at H
             have c24b0 : (t371 == x8_17) = false := beq_eq_false_iff_ne.mpr c24
             have c24b1 : (t371 != x8_17) = true := bne_iff_ne.mpr c24
             (first | rw [c24b0] | (simp only [i64_w, i32_w]; rw [c24b0]) | skip)
             have H' := Aside0.mk H
             clear H
             go_wp2
             go_meet
             case rel => exact ⟨_, (true), (by first | rfl | (simp; done) | (simp [*]; done)), H', ⟨by have := HJ4.out; have := HK2.out; have := HJ17.out; first | omega | exact Nat.le_refl _⟩, ⟨pxb HB⟩⟩
           case rest =>
            clear HC21
            try clear c1
            try clear hcv1
            try clear c2
            try clear p2
            try clear c3
            try clear c4
            try clear p6
            try clear c7
            try clear c7b0
            try clear c8
            try clear c8b0
            try clear c9
            try clear c9b0
            try clear c10
            try clear c11
            try clear c11b0
            try clear c11b1
            try clear hcv14
            try clear c15
            try clear c15b0
            try clear c16
            try clear c19
            try clear c19b0
            try clear c24
            try clear c24b0
            try clear c24b1
            try clear c25
            try clear c25b0
            try clear c25b1
            try clear p2
            try clear p6
            obtain ⟨kq, x65_20, rfl, HA, HJ20, HB⟩ := hcut
            cases kq with
            | zero => exact absurd HA.out (by simp [caulkerlaw03_EditLimits.j3])
            | succ kj20 =>
             have H := HA.out
             clear HA
             simp only [caulkerlaw03_EditLimits.j3] at H
             by_cases c26 : x65_20 = true
             ·subst c26
              have H1 : (some false) = some r := by rw [if_pos rfl] at H; exact H
              clear H
              have H := H1
              clear H1
              obtain rfl := Option.some.inj H
              go_wp2
              go_ret
              exact ⟨by first | rfl | (simp [errW_none, errW_some] <;> rfl) | (simp [*, errW_none, errW_some] <;> rfl), pxb HB⟩
             ·replace c26 := Bool.eq_false_iff.mpr c26
              subst c26
              have H1 : (if 0 ≤ a1 then (if (a1 : Int).toNat ≤ 281474976710656 then ((edit_Apply.f kj20 (strOfNums y364) (([(⟨(⟨0, 0⟩ : S24), strOfNums (List.replicate (a1 : Int).toNat 0)⟩ : S60)] : List (S60)))).bind fun bt379 => (if a1 > 60536 then (if bt379.2 = 2 then (some (bt379.1.toList == ([] : List UInt8))) else (some false)) else (if bt379.2 = 0 then (some ((bt379.1.size : Int) == (wrap64 (5000 + a1)))) else (some false)))) else (none)) else (none)) = some r := by rw [if_neg (show ¬ (false = true) by decide)] at H; exact H
              clear H
              have H := H1
              clear H1
              by_cases c27 : 0 ≤ a1
              ·rw [if_pos c27] at H
               have c27b0 := eq_true c27
               have c27b1 : decide (0 ≤ a1) = true := decide_eq_true c27
               clear c27
               by_cases c28 : (a1 : Int).toNat ≤ 281474976710656
               ·rw [if_pos c28] at H
                have c28b0 := eq_true c28
                have c28b1 : decide ((a1 : Int).toNat ≤ 281474976710656) = true := decide_eq_true c28
                clear c28
                obtain ⟨y372, hy372⟩ : ∃ y_ : List Int, y_ = (List.replicate (a1 : Int).toNat 0) := ⟨_, rfl⟩
                replace H : ((edit_Apply.f kj20 (strOfNums y364) (([(⟨(⟨0, 0⟩ : S24), strOfNums y372⟩ : S60)] : List (S60)))).bind fun bt379 => (if a1 > 60536 then (if bt379.2 = 2 then (some (bt379.1.toList == ([] : List UInt8))) else (some false)) else (if bt379.2 = 0 then (some ((bt379.1.size : Int) == (wrap64 (5000 + a1)))) else (some false)))) = some r := by first | (rw [hy372]; with_reducible exact H) | (have H2_ := (Option.bind_some _ _).symm.trans H; rw [hy372]; with_reducible exact H2_) | (have H2_ := (Option.bind_some _ _).symm.trans H; with_reducible exact H2_) | with_reducible exact H | (rw [hy372]; exact H) | exact H
                have Ny372 := Aside0.mk hy372
                clear hy372
                obtain ⟨y376, hy376⟩ : ∃ y_ : List (S60), y_ = (([(⟨(⟨0, 0⟩ : S24), strOfNums y372⟩ : S60)] : List (S60))) := ⟨_, rfl⟩
                replace H : ((edit_Apply.f kj20 (strOfNums y364) y376).bind fun bt379 => (if a1 > 60536 then (if bt379.2 = 2 then (some (bt379.1.toList == ([] : List UInt8))) else (some false)) else (if bt379.2 = 0 then (some ((bt379.1.size : Int) == (wrap64 (5000 + a1)))) else (some false)))) = some r := by first | (rw [hy376]; with_reducible exact H) | (have H2_ := (Option.bind_some _ _).symm.trans H; rw [hy376]; with_reducible exact H2_) | (have H2_ := (Option.bind_some _ _).symm.trans H; with_reducible exact H2_) | with_reducible exact H | (rw [hy376]; exact H) | exact H
                have Ny376 := Aside0.mk hy376
                clear hy376
                replace H := Option.bind_eq_some_iff.mp H
                obtain ⟨⟨t379, t380⟩, A290, H⟩ := H
                replace H : (if a1 > 60536 then (if t380 = 2 then (some (t379.toList == ([] : List UInt8))) else (some false)) else (if t380 = 0 then (some ((t379.size : Int) == (wrap64 (5000 + a1)))) else (some false))) = some r := H
                have A29 := Aside0.mk A290
                clear A290
                by_cases c30 : a1 > 60536
                ·rw [if_pos c30] at H
                 have c30b0 : decide (60536 < a1) = true := decide_eq_true c30
                 clear c30
                 by_cases c31 : t380 = 2
                 ·rw [if_pos c31] at H
                  have c31b0 : (t380 == 2) = true := beq_iff_eq.mpr c31
                  have c31b1 : (t380 != 2) = false := bne_eq_false_iff_eq.mpr c31
                  clear c31
                  obtain rfl := Option.some.inj H
                  go_wp2_with (first | ((with_reducible refine gate_dst (N := 67) rfl ?_); (try (refine gate_guard (by rfl) ?_; dsimp only)); refine Kd.R_make (Kd.int .u8) _ 5 rfl (N := 67) rfl 62 _ _ rfl a1 rfl rfl Try.underlying62 (.int .u8 0) 1 info5 rfl (by decide) (by omega) 0 (ok := fun _ => True) (okp := fun _ => True) rfl (fun _ hk => hk) trivial (of_decide_eq_true (by first | (with_reducible assumption) | assumption)) (Nat.le_trans (Nat.mul_le_mul_right _ (of_decide_eq_true (by first | (with_reducible assumption) | assumption) : a1.toNat ≤ 281474976710656)) (by omega)) (Below.refl _ _) (Nat.le_refl _) ?_; intro v373 w32 ho33 hb hg_ hnew_; clear hg_ hnew_; (first | rw [← Ny372.out] at ho33 | (simp only [Int.reduceToNat] at ho33; rw [← Ny372.out] at ho33)); have n0_ := Aside0.mk (Kd.R_lower ho33 (below_size (pxb HB))); have n1_ := pxs HB hb; clear HB; have HO374 := n0_; have HB := n1_; clear n0_ n1_; clear hb ho33; have hcv34 := own_string (P := Try.prog) Try.underlying62 Try.underlying5 Try.underlying9 (Kd.own_of_R HO374.out)) | ((with_reducible refine gate_dst (N := 11) rfl ?_); (try (refine gate_guard (by rfl) ?_; dsimp only)); refine box_event ?hg (N := 11) ?hd (cs := #[.int .i64 0, .int .i64 0, .string (⟨#[]⟩ : ByteArray)]) (t := 60) ?hr ?_; (case hd => rfl); (case hg => rfl); (case hr => first | (go_simp; done) | (go_simp; rfl)); intro gb375 hg w35 hbox hb; have n0_ := Aside0.mk (Kd.R_below (pxr HO374) hb); have n1_ := pxs HB hb; have n2_ := Aside0.mk (hbox); have n3_ := Aside0.mk ((by rw [hg]; exact (below_size (pxb HB)) : w.heap.size ≤ gb375)); have n4_ := Aside0.mk ((by rw [hg]; exact (below_size (pxb HB)) : w.heap.size ≤ gb375)); clear HO374; clear HB; have HO374 := n0_; have HB := n1_; have BK375 := n2_; have GW375 := n3_; have GE375 := n4_; clear n0_ n1_ n2_ n3_ n4_; clear hb hbox hg; have hcz36_0 : w35.cell? ⟨gb375, 0, none⟩ = some (.int .i64 0) := (blk_cell BK375.out 0).trans rfl; have hcz36_1 : w35.cell? ⟨gb375, 1, none⟩ = some (.int .i64 0) := (blk_cell BK375.out 1).trans rfl; have hcz36_2 : w35.cell? ⟨gb375, 2, none⟩ = some (.string (⟨#[]⟩ : ByteArray)) := (blk_cell BK375.out 2).trans rfl; have hfz36_0 := blk_frozen BK375.out 0; have hfz36_1 := blk_frozen BK375.out 1; have hfz36_2 := blk_frozen BK375.out 2) | ((with_reducible refine gate_dst (N := 73) rfl ?_); (try (refine gate_guard (by rfl) ?_; dsimp only)); refine Kd.R_lit k60 _ 60 ?hg (N := 73) ?hd (xs := ([(⟨(⟨0, 0⟩ : S24), strOfNums y372⟩ : S60)] : List (S60))) (inner := [.int .i64 0, .int .i64 0, .string (strOfNums y372)]) (ok := fun _ => True) (okp := fun _ => True) ?hr ?hp (fun _ hk => hk) trivial (Below.refl _ _) (Nat.le_refl _) (by simp) ?_; (case hd => rfl); (case hg => rfl); (case hr => first | (go_simp; done) | (go_simp; rfl)); (case hp => exact (Reps.c3 (show Kd.M k60 _ _ _ (⟨(⟨0, 0⟩ : S24), strOfNums y372⟩ : S60) [.int .i64 0, .int .i64 0, .string (strOfNums y372)] from (k60_mkM _ _ _ (⟨(⟨0, 0⟩ : S24), strOfNums y372⟩ : S60) )) (Reps.none _ _))); intro v377 w37 ho38 hb hg_ hnew_; clear hg_ hnew_; (first | rw [← Ny376.out] at ho38 | (simp only [Int.reduceToNat] at ho38; rw [← Ny376.out] at ho38)); have n0_ := Aside0.mk (Kd.R_below (by (with_reducible repeat (first | apply Kd.R_alloc | apply Kd.R_drewN | apply Kd.R_drew)); exact (Kd.R_mono (Kd.R_far (p := ⟨gb375, 2, none⟩) (Kd.R_far (p := ⟨gb375, 1, none⟩) (Kd.R_far (p := ⟨gb375, 0, none⟩) (Kd.R_types HO374.out BK375.out (by decide)) (fun _ hk => hk.2) (.int .i64 0)) (fun _ hk => hk.2) (.int .i64 0)) (fun _ hk => hk.2) (.string (strOfNums y372))) (fun _ h_ => h_.1))) hb); have n1_ := Aside0.mk (Kd.R_lower (Kd.R_newB ho38 (g := gb375) (o := .cells #[.int .i64 0, .int .i64 0, .string (strOfNums y372)] 60 (0, 0)) (by (with_reducible repeat (first | refine blk_drewN ?_ _ | refine blk_drew ?_ | refine blk_alloc ?_ _)); refine blk_put (cs := #[.int .i64 0, .int .i64 0, .string (⟨#[]⟩ : ByteArray)]) ?_ 2 _ rfl; (with_reducible repeat (first | refine blk_drewN ?_ _ | refine blk_drew ?_ | refine blk_alloc ?_ _)); refine blk_put (cs := #[.int .i64 0, .int .i64 0, .string (⟨#[]⟩ : ByteArray)]) ?_ 1 _ rfl; (with_reducible repeat (first | refine blk_drewN ?_ _ | refine blk_drew ?_ | refine blk_alloc ?_ _)); refine blk_put (cs := #[.int .i64 0, .int .i64 0, .string (⟨#[]⟩ : ByteArray)]) ?_ 0 _ rfl; (with_reducible repeat (first | refine blk_drewN ?_ _ | refine blk_drew ?_ | refine blk_alloc ?_ _)); exact BK375.out)) (below_size (pxb HB))); have n2_ := Aside0.mk (blk_below (g := gb375) (o := .cells #[.int .i64 0, .int .i64 0, .string (strOfNums y372)] 60 (0, 0)) (by (with_reducible repeat (first | refine blk_drewN ?_ _ | refine blk_drew ?_ | refine blk_alloc ?_ _)); refine blk_put (cs := #[.int .i64 0, .int .i64 0, .string (⟨#[]⟩ : ByteArray)]) ?_ 2 _ rfl; (with_reducible repeat (first | refine blk_drewN ?_ _ | refine blk_drew ?_ | refine blk_alloc ?_ _)); refine blk_put (cs := #[.int .i64 0, .int .i64 0, .string (⟨#[]⟩ : ByteArray)]) ?_ 1 _ rfl; (with_reducible repeat (first | refine blk_drewN ?_ _ | refine blk_drew ?_ | refine blk_alloc ?_ _)); refine blk_put (cs := #[.int .i64 0, .int .i64 0, .string (⟨#[]⟩ : ByteArray)]) ?_ 0 _ rfl; (with_reducible repeat (first | refine blk_drewN ?_ _ | refine blk_drew ?_ | refine blk_alloc ?_ _)); exact BK375.out) hb); have n3_ := pxs HB hb; clear HO374; clear BK375; clear HB; have HO374 := n0_; have HO378 := n1_; have BK375 := n2_; have HB := n3_; clear n0_ n1_ n2_ n3_; clear hb ho38; obtain ⟨Ao39, co39, eo39⟩ := Kd.R_slice HO378.out; subst eo39) | ((with_reducible refine gate_callee (f := 31) rfl ?_); refine goesL_ (some 74) rfl rfl Try.func31 (by kernel_rfl) rfl #[.string (strOfNums y364), .slice Ao39 y376.length co39] rfl (by (try simp only [List.map_toArray, List.map_cons, List.map_nil]); first | done | rfl | (simp only [List.length_drop, List.length_take]; rfl)) ?_; (with_reducible refine (edit_Apply.calls kj20 (strOfNums y364) _ _ y376 t379 t380 _ ?side1 ?side2 A29.out).mono ?_); (case side1 => repeat (first | exact (Kd.R_reads' HO378.out).2.2 | (with_reducible refine Kd.C_alloc ?_ _) | (with_reducible refine Kd.C_drewN ?_ _) | (with_reducible refine Kd.C_drew ?_))); (case side2 => exact (Kd.R_reads' HO378.out).2.1); rintro e w40 ⟨rfl, hb⟩; refine ⟨_, rfl, ?_⟩; have n0_ := Aside0.mk (Kd.R_below (pxr HO374) hb); have n1_ := Aside0.mk (Kd.R_below (pxr HO378) hb); have n2_ := pxk BK375 hb; have n3_ := pxs HB hb; clear HO374; clear HO378; clear BK375; clear HB; have HO374 := n0_; have HO378 := n1_; have BK375 := n2_; have HB := n3_; clear n0_ n1_ n2_ n3_; (try clear hb); (try clear hb2); (try clear hk); (try clear hi)))
                  go_ret
                  exact ⟨by first | rfl | (simp [errW_none, errW_some] <;> rfl) | (simp [*, errW_none, errW_some] <;> rfl), pxb HB⟩
                 ·rw [if_neg c31] at H
                  have c31b0 : (t380 == 2) = false := beq_eq_false_iff_ne.mpr c31
                  have c31b1 : (t380 != 2) = true := bne_iff_ne.mpr c31
                  obtain rfl := Option.some.inj H
                  go_wp2_with (first | ((with_reducible refine gate_dst (N := 67) rfl ?_); (try (refine gate_guard (by rfl) ?_; dsimp only)); refine Kd.R_make (Kd.int .u8) _ 5 rfl (N := 67) rfl 62 _ _ rfl a1 rfl rfl Try.underlying62 (.int .u8 0) 1 info5 rfl (by decide) (by omega) 0 (ok := fun _ => True) (okp := fun _ => True) rfl (fun _ hk => hk) trivial (of_decide_eq_true (by first | (with_reducible assumption) | assumption)) (Nat.le_trans (Nat.mul_le_mul_right _ (of_decide_eq_true (by first | (with_reducible assumption) | assumption) : a1.toNat ≤ 281474976710656)) (by omega)) (Below.refl _ _) (Nat.le_refl _) ?_; intro v373 w41 ho42 hb hg_ hnew_; clear hg_ hnew_; (first | rw [← Ny372.out] at ho42 | (simp only [Int.reduceToNat] at ho42; rw [← Ny372.out] at ho42)); have n0_ := Aside0.mk (Kd.R_lower ho42 (below_size (pxb HB))); have n1_ := pxs HB hb; clear HB; have HO374 := n0_; have HB := n1_; clear n0_ n1_; clear hb ho42; have hcv43 := own_string (P := Try.prog) Try.underlying62 Try.underlying5 Try.underlying9 (Kd.own_of_R HO374.out)) | ((with_reducible refine gate_dst (N := 11) rfl ?_); (try (refine gate_guard (by rfl) ?_; dsimp only)); refine box_event ?hg (N := 11) ?hd (cs := #[.int .i64 0, .int .i64 0, .string (⟨#[]⟩ : ByteArray)]) (t := 60) ?hr ?_; (case hd => rfl); (case hg => rfl); (case hr => first | (go_simp; done) | (go_simp; rfl)); intro gb375 hg w44 hbox hb; have n0_ := Aside0.mk (Kd.R_below (pxr HO374) hb); have n1_ := pxs HB hb; have n2_ := Aside0.mk (hbox); have n3_ := Aside0.mk ((by rw [hg]; exact (below_size (pxb HB)) : w.heap.size ≤ gb375)); have n4_ := Aside0.mk ((by rw [hg]; exact (below_size (pxb HB)) : w.heap.size ≤ gb375)); clear HO374; clear HB; have HO374 := n0_; have HB := n1_; have BK375 := n2_; have GW375 := n3_; have GE375 := n4_; clear n0_ n1_ n2_ n3_ n4_; clear hb hbox hg; have hcz45_0 : w44.cell? ⟨gb375, 0, none⟩ = some (.int .i64 0) := (blk_cell BK375.out 0).trans rfl; have hcz45_1 : w44.cell? ⟨gb375, 1, none⟩ = some (.int .i64 0) := (blk_cell BK375.out 1).trans rfl; have hcz45_2 : w44.cell? ⟨gb375, 2, none⟩ = some (.string (⟨#[]⟩ : ByteArray)) := (blk_cell BK375.out 2).trans rfl; have hfz45_0 := blk_frozen BK375.out 0; have hfz45_1 := blk_frozen BK375.out 1; have hfz45_2 := blk_frozen BK375.out 2) | ((with_reducible refine gate_dst (N := 73) rfl ?_); (try (refine gate_guard (by rfl) ?_; dsimp only)); refine Kd.R_lit k60 _ 60 ?hg (N := 73) ?hd (xs := ([(⟨(⟨0, 0⟩ : S24), strOfNums y372⟩ : S60)] : List (S60))) (inner := [.int .i64 0, .int .i64 0, .string (strOfNums y372)]) (ok := fun _ => True) (okp := fun _ => True) ?hr ?hp (fun _ hk => hk) trivial (Below.refl _ _) (Nat.le_refl _) (by simp) ?_; (case hd => rfl); (case hg => rfl); (case hr => first | (go_simp; done) | (go_simp; rfl)); (case hp => exact (Reps.c3 (show Kd.M k60 _ _ _ (⟨(⟨0, 0⟩ : S24), strOfNums y372⟩ : S60) [.int .i64 0, .int .i64 0, .string (strOfNums y372)] from (k60_mkM _ _ _ (⟨(⟨0, 0⟩ : S24), strOfNums y372⟩ : S60) )) (Reps.none _ _))); intro v377 w46 ho47 hb hg_ hnew_; clear hg_ hnew_; (first | rw [← Ny376.out] at ho47 | (simp only [Int.reduceToNat] at ho47; rw [← Ny376.out] at ho47)); have n0_ := Aside0.mk (Kd.R_below (by (with_reducible repeat (first | apply Kd.R_alloc | apply Kd.R_drewN | apply Kd.R_drew)); exact (Kd.R_mono (Kd.R_far (p := ⟨gb375, 2, none⟩) (Kd.R_far (p := ⟨gb375, 1, none⟩) (Kd.R_far (p := ⟨gb375, 0, none⟩) (Kd.R_types HO374.out BK375.out (by decide)) (fun _ hk => hk.2) (.int .i64 0)) (fun _ hk => hk.2) (.int .i64 0)) (fun _ hk => hk.2) (.string (strOfNums y372))) (fun _ h_ => h_.1))) hb); have n1_ := Aside0.mk (Kd.R_lower (Kd.R_newB ho47 (g := gb375) (o := .cells #[.int .i64 0, .int .i64 0, .string (strOfNums y372)] 60 (0, 0)) (by (with_reducible repeat (first | refine blk_drewN ?_ _ | refine blk_drew ?_ | refine blk_alloc ?_ _)); refine blk_put (cs := #[.int .i64 0, .int .i64 0, .string (⟨#[]⟩ : ByteArray)]) ?_ 2 _ rfl; (with_reducible repeat (first | refine blk_drewN ?_ _ | refine blk_drew ?_ | refine blk_alloc ?_ _)); refine blk_put (cs := #[.int .i64 0, .int .i64 0, .string (⟨#[]⟩ : ByteArray)]) ?_ 1 _ rfl; (with_reducible repeat (first | refine blk_drewN ?_ _ | refine blk_drew ?_ | refine blk_alloc ?_ _)); refine blk_put (cs := #[.int .i64 0, .int .i64 0, .string (⟨#[]⟩ : ByteArray)]) ?_ 0 _ rfl; (with_reducible repeat (first | refine blk_drewN ?_ _ | refine blk_drew ?_ | refine blk_alloc ?_ _)); exact BK375.out)) (below_size (pxb HB))); have n2_ := Aside0.mk (blk_below (g := gb375) (o := .cells #[.int .i64 0, .int .i64 0, .string (strOfNums y372)] 60 (0, 0)) (by (with_reducible repeat (first | refine blk_drewN ?_ _ | refine blk_drew ?_ | refine blk_alloc ?_ _)); refine blk_put (cs := #[.int .i64 0, .int .i64 0, .string (⟨#[]⟩ : ByteArray)]) ?_ 2 _ rfl; (with_reducible repeat (first | refine blk_drewN ?_ _ | refine blk_drew ?_ | refine blk_alloc ?_ _)); refine blk_put (cs := #[.int .i64 0, .int .i64 0, .string (⟨#[]⟩ : ByteArray)]) ?_ 1 _ rfl; (with_reducible repeat (first | refine blk_drewN ?_ _ | refine blk_drew ?_ | refine blk_alloc ?_ _)); refine blk_put (cs := #[.int .i64 0, .int .i64 0, .string (⟨#[]⟩ : ByteArray)]) ?_ 0 _ rfl; (with_reducible repeat (first | refine blk_drewN ?_ _ | refine blk_drew ?_ | refine blk_alloc ?_ _)); exact BK375.out) hb); have n3_ := pxs HB hb; clear HO374; clear BK375; clear HB; have HO374 := n0_; have HO378 := n1_; have BK375 := n2_; have HB := n3_; clear n0_ n1_ n2_ n3_; clear hb ho47; obtain ⟨Ao48, co48, eo48⟩ := Kd.R_slice HO378.out; subst eo48) | ((with_reducible refine gate_callee (f := 31) rfl ?_); refine goesL_ (some 74) rfl rfl Try.func31 (by kernel_rfl) rfl #[.string (strOfNums y364), .slice Ao48 y376.length co48] rfl (by (try simp only [List.map_toArray, List.map_cons, List.map_nil]); first | done | rfl | (simp only [List.length_drop, List.length_take]; rfl)) ?_; (with_reducible refine (edit_Apply.calls kj20 (strOfNums y364) _ _ y376 t379 t380 _ ?side1 ?side2 A29.out).mono ?_); (case side1 => repeat (first | exact (Kd.R_reads' HO378.out).2.2 | (with_reducible refine Kd.C_alloc ?_ _) | (with_reducible refine Kd.C_drewN ?_ _) | (with_reducible refine Kd.C_drew ?_))); (case side2 => exact (Kd.R_reads' HO378.out).2.1); rintro e w49 ⟨rfl, hb⟩; refine ⟨_, rfl, ?_⟩; have n0_ := Aside0.mk (Kd.R_below (pxr HO374) hb); have n1_ := Aside0.mk (Kd.R_below (pxr HO378) hb); have n2_ := pxk BK375 hb; have n3_ := pxs HB hb; clear HO374; clear HO378; clear BK375; clear HB; have HO374 := n0_; have HO378 := n1_; have BK375 := n2_; have HB := n3_; clear n0_ n1_ n2_ n3_; (try clear hb); (try clear hb2); (try clear hk); (try clear hi)))
                  go_ret
                  exact ⟨by first | rfl | (simp [errW_none, errW_some] <;> rfl) | (simp [*, errW_none, errW_some] <;> rfl), pxb HB⟩
                ·rw [if_neg c30] at H
                 have c30b0 : decide (60536 < a1) = false := decide_eq_false c30
                 clear c30
                 by_cases c50 : t380 = 0
                 ·rw [if_pos c50] at H
                  have c50b0 : (t380 == 0) = true := beq_iff_eq.mpr c50
                  have c50b1 : (t380 != 0) = false := bne_eq_false_iff_eq.mpr c50
                  clear c50
                  obtain rfl := Option.some.inj H
                  go_wp2_with (first | ((with_reducible refine gate_dst (N := 67) rfl ?_); (try (refine gate_guard (by rfl) ?_; dsimp only)); refine Kd.R_make (Kd.int .u8) _ 5 rfl (N := 67) rfl 62 _ _ rfl a1 rfl rfl Try.underlying62 (.int .u8 0) 1 info5 rfl (by decide) (by omega) 0 (ok := fun _ => True) (okp := fun _ => True) rfl (fun _ hk => hk) trivial (of_decide_eq_true (by first | (with_reducible assumption) | assumption)) (Nat.le_trans (Nat.mul_le_mul_right _ (of_decide_eq_true (by first | (with_reducible assumption) | assumption) : a1.toNat ≤ 281474976710656)) (by omega)) (Below.refl _ _) (Nat.le_refl _) ?_; intro v373 w51 ho52 hb hg_ hnew_; clear hg_ hnew_; (first | rw [← Ny372.out] at ho52 | (simp only [Int.reduceToNat] at ho52; rw [← Ny372.out] at ho52)); have n0_ := Aside0.mk (Kd.R_lower ho52 (below_size (pxb HB))); have n1_ := pxs HB hb; clear HB; have HO374 := n0_; have HB := n1_; clear n0_ n1_; clear hb ho52; have hcv53 := own_string (P := Try.prog) Try.underlying62 Try.underlying5 Try.underlying9 (Kd.own_of_R HO374.out)) | ((with_reducible refine gate_dst (N := 11) rfl ?_); (try (refine gate_guard (by rfl) ?_; dsimp only)); refine box_event ?hg (N := 11) ?hd (cs := #[.int .i64 0, .int .i64 0, .string (⟨#[]⟩ : ByteArray)]) (t := 60) ?hr ?_; (case hd => rfl); (case hg => rfl); (case hr => first | (go_simp; done) | (go_simp; rfl)); intro gb375 hg w54 hbox hb; have n0_ := Aside0.mk (Kd.R_below (pxr HO374) hb); have n1_ := pxs HB hb; have n2_ := Aside0.mk (hbox); have n3_ := Aside0.mk ((by rw [hg]; exact (below_size (pxb HB)) : w.heap.size ≤ gb375)); have n4_ := Aside0.mk ((by rw [hg]; exact (below_size (pxb HB)) : w.heap.size ≤ gb375)); clear HO374; clear HB; have HO374 := n0_; have HB := n1_; have BK375 := n2_; have GW375 := n3_; have GE375 := n4_; clear n0_ n1_ n2_ n3_ n4_; clear hb hbox hg; have hcz55_0 : w54.cell? ⟨gb375, 0, none⟩ = some (.int .i64 0) := (blk_cell BK375.out 0).trans rfl; have hcz55_1 : w54.cell? ⟨gb375, 1, none⟩ = some (.int .i64 0) := (blk_cell BK375.out 1).trans rfl; have hcz55_2 : w54.cell? ⟨gb375, 2, none⟩ = some (.string (⟨#[]⟩ : ByteArray)) := (blk_cell BK375.out 2).trans rfl; have hfz55_0 := blk_frozen BK375.out 0; have hfz55_1 := blk_frozen BK375.out 1; have hfz55_2 := blk_frozen BK375.out 2) | ((with_reducible refine gate_dst (N := 73) rfl ?_); (try (refine gate_guard (by rfl) ?_; dsimp only)); refine Kd.R_lit k60 _ 60 ?hg (N := 73) ?hd (xs := ([(⟨(⟨0, 0⟩ : S24), strOfNums y372⟩ : S60)] : List (S60))) (inner := [.int .i64 0, .int .i64 0, .string (strOfNums y372)]) (ok := fun _ => True) (okp := fun _ => True) ?hr ?hp (fun _ hk => hk) trivial (Below.refl _ _) (Nat.le_refl _) (by simp) ?_; (case hd => rfl); (case hg => rfl); (case hr => first | (go_simp; done) | (go_simp; rfl)); (case hp => exact (Reps.c3 (show Kd.M k60 _ _ _ (⟨(⟨0, 0⟩ : S24), strOfNums y372⟩ : S60) [.int .i64 0, .int .i64 0, .string (strOfNums y372)] from (k60_mkM _ _ _ (⟨(⟨0, 0⟩ : S24), strOfNums y372⟩ : S60) )) (Reps.none _ _))); intro v377 w56 ho57 hb hg_ hnew_; clear hg_ hnew_; (first | rw [← Ny376.out] at ho57 | (simp only [Int.reduceToNat] at ho57; rw [← Ny376.out] at ho57)); have n0_ := Aside0.mk (Kd.R_below (by (with_reducible repeat (first | apply Kd.R_alloc | apply Kd.R_drewN | apply Kd.R_drew)); exact (Kd.R_mono (Kd.R_far (p := ⟨gb375, 2, none⟩) (Kd.R_far (p := ⟨gb375, 1, none⟩) (Kd.R_far (p := ⟨gb375, 0, none⟩) (Kd.R_types HO374.out BK375.out (by decide)) (fun _ hk => hk.2) (.int .i64 0)) (fun _ hk => hk.2) (.int .i64 0)) (fun _ hk => hk.2) (.string (strOfNums y372))) (fun _ h_ => h_.1))) hb); have n1_ := Aside0.mk (Kd.R_lower (Kd.R_newB ho57 (g := gb375) (o := .cells #[.int .i64 0, .int .i64 0, .string (strOfNums y372)] 60 (0, 0)) (by (with_reducible repeat (first | refine blk_drewN ?_ _ | refine blk_drew ?_ | refine blk_alloc ?_ _)); refine blk_put (cs := #[.int .i64 0, .int .i64 0, .string (⟨#[]⟩ : ByteArray)]) ?_ 2 _ rfl; (with_reducible repeat (first | refine blk_drewN ?_ _ | refine blk_drew ?_ | refine blk_alloc ?_ _)); refine blk_put (cs := #[.int .i64 0, .int .i64 0, .string (⟨#[]⟩ : ByteArray)]) ?_ 1 _ rfl; (with_reducible repeat (first | refine blk_drewN ?_ _ | refine blk_drew ?_ | refine blk_alloc ?_ _)); refine blk_put (cs := #[.int .i64 0, .int .i64 0, .string (⟨#[]⟩ : ByteArray)]) ?_ 0 _ rfl; (with_reducible repeat (first | refine blk_drewN ?_ _ | refine blk_drew ?_ | refine blk_alloc ?_ _)); exact BK375.out)) (below_size (pxb HB))); have n2_ := Aside0.mk (blk_below (g := gb375) (o := .cells #[.int .i64 0, .int .i64 0, .string (strOfNums y372)] 60 (0, 0)) (by (with_reducible repeat (first | refine blk_drewN ?_ _ | refine blk_drew ?_ | refine blk_alloc ?_ _)); refine blk_put (cs := #[.int .i64 0, .int .i64 0, .string (⟨#[]⟩ : ByteArray)]) ?_ 2 _ rfl; (with_reducible repeat (first | refine blk_drewN ?_ _ | refine blk_drew ?_ | refine blk_alloc ?_ _)); refine blk_put (cs := #[.int .i64 0, .int .i64 0, .string (⟨#[]⟩ : ByteArray)]) ?_ 1 _ rfl; (with_reducible repeat (first | refine blk_drewN ?_ _ | refine blk_drew ?_ | refine blk_alloc ?_ _)); refine blk_put (cs := #[.int .i64 0, .int .i64 0, .string (⟨#[]⟩ : ByteArray)]) ?_ 0 _ rfl; (with_reducible repeat (first | refine blk_drewN ?_ _ | refine blk_drew ?_ | refine blk_alloc ?_ _)); exact BK375.out) hb); have n3_ := pxs HB hb; clear HO374; clear BK375; clear HB; have HO374 := n0_; have HO378 := n1_; have BK375 := n2_; have HB := n3_; clear n0_ n1_ n2_ n3_; clear hb ho57; obtain ⟨Ao58, co58, eo58⟩ := Kd.R_slice HO378.out; subst eo58) | ((with_reducible refine gate_callee (f := 31) rfl ?_); refine goesL_ (some 74) rfl rfl Try.func31 (by kernel_rfl) rfl #[.string (strOfNums y364), .slice Ao58 y376.length co58] rfl (by (try simp only [List.map_toArray, List.map_cons, List.map_nil]); first | done | rfl | (simp only [List.length_drop, List.length_take]; rfl)) ?_; (with_reducible refine (edit_Apply.calls kj20 (strOfNums y364) _ _ y376 t379 t380 _ ?side1 ?side2 A29.out).mono ?_); (case side1 => repeat (first | exact (Kd.R_reads' HO378.out).2.2 | (with_reducible refine Kd.C_alloc ?_ _) | (with_reducible refine Kd.C_drewN ?_ _) | (with_reducible refine Kd.C_drew ?_))); (case side2 => exact (Kd.R_reads' HO378.out).2.1); rintro e w59 ⟨rfl, hb⟩; refine ⟨_, rfl, ?_⟩; have n0_ := Aside0.mk (Kd.R_below (pxr HO374) hb); have n1_ := Aside0.mk (Kd.R_below (pxr HO378) hb); have n2_ := pxk BK375 hb; have n3_ := pxs HB hb; clear HO374; clear HO378; clear BK375; clear HB; have HO374 := n0_; have HO378 := n1_; have BK375 := n2_; have HB := n3_; clear n0_ n1_ n2_ n3_; (try clear hb); (try clear hb2); (try clear hk); (try clear hi)))
                  go_ret
                  exact ⟨by first | rfl | (simp [errW_none, errW_some] <;> rfl) | (simp [*, errW_none, errW_some] <;> rfl), pxb HB⟩
                 ·rw [if_neg c50] at H
                  have c50b0 : (t380 == 0) = false := beq_eq_false_iff_ne.mpr c50
                  have c50b1 : (t380 != 0) = true := bne_iff_ne.mpr c50
                  obtain rfl := Option.some.inj H
                  go_wp2_with (first | ((with_reducible refine gate_dst (N := 67) rfl ?_); (try (refine gate_guard (by rfl) ?_; dsimp only)); refine Kd.R_make (Kd.int .u8) _ 5 rfl (N := 67) rfl 62 _ _ rfl a1 rfl rfl Try.underlying62 (.int .u8 0) 1 info5 rfl (by decide) (by omega) 0 (ok := fun _ => True) (okp := fun _ => True) rfl (fun _ hk => hk) trivial (of_decide_eq_true (by first | (with_reducible assumption) | assumption)) (Nat.le_trans (Nat.mul_le_mul_right _ (of_decide_eq_true (by first | (with_reducible assumption) | assumption) : a1.toNat ≤ 281474976710656)) (by omega)) (Below.refl _ _) (Nat.le_refl _) ?_; intro v373 w60 ho61 hb hg_ hnew_; clear hg_ hnew_; (first | rw [← Ny372.out] at ho61 | (simp only [Int.reduceToNat] at ho61; rw [← Ny372.out] at ho61)); have n0_ := Aside0.mk (Kd.R_lower ho61 (below_size (pxb HB))); have n1_ := pxs HB hb; clear HB; have HO374 := n0_; have HB := n1_; clear n0_ n1_; clear hb ho61; have hcv62 := own_string (P := Try.prog) Try.underlying62 Try.underlying5 Try.underlying9 (Kd.own_of_R HO374.out)) | ((with_reducible refine gate_dst (N := 11) rfl ?_); (try (refine gate_guard (by rfl) ?_; dsimp only)); refine box_event ?hg (N := 11) ?hd (cs := #[.int .i64 0, .int .i64 0, .string (⟨#[]⟩ : ByteArray)]) (t := 60) ?hr ?_; (case hd => rfl); (case hg => rfl); (case hr => first | (go_simp; done) | (go_simp; rfl)); intro gb375 hg w63 hbox hb; have n0_ := Aside0.mk (Kd.R_below (pxr HO374) hb); have n1_ := pxs HB hb; have n2_ := Aside0.mk (hbox); have n3_ := Aside0.mk ((by rw [hg]; exact (below_size (pxb HB)) : w.heap.size ≤ gb375)); have n4_ := Aside0.mk ((by rw [hg]; exact (below_size (pxb HB)) : w.heap.size ≤ gb375)); clear HO374; clear HB; have HO374 := n0_; have HB := n1_; have BK375 := n2_; have GW375 := n3_; have GE375 := n4_; clear n0_ n1_ n2_ n3_ n4_; clear hb hbox hg; have hcz64_0 : w63.cell? ⟨gb375, 0, none⟩ = some (.int .i64 0) := (blk_cell BK375.out 0).trans rfl; have hcz64_1 : w63.cell? ⟨gb375, 1, none⟩ = some (.int .i64 0) := (blk_cell BK375.out 1).trans rfl; have hcz64_2 : w63.cell? ⟨gb375, 2, none⟩ = some (.string (⟨#[]⟩ : ByteArray)) := (blk_cell BK375.out 2).trans rfl; have hfz64_0 := blk_frozen BK375.out 0; have hfz64_1 := blk_frozen BK375.out 1; have hfz64_2 := blk_frozen BK375.out 2) | ((with_reducible refine gate_dst (N := 73) rfl ?_); (try (refine gate_guard (by rfl) ?_; dsimp only)); refine Kd.R_lit k60 _ 60 ?hg (N := 73) ?hd (xs := ([(⟨(⟨0, 0⟩ : S24), strOfNums y372⟩ : S60)] : List (S60))) (inner := [.int .i64 0, .int .i64 0, .string (strOfNums y372)]) (ok := fun _ => True) (okp := fun _ => True) ?hr ?hp (fun _ hk => hk) trivial (Below.refl _ _) (Nat.le_refl _) (by simp) ?_; (case hd => rfl); (case hg => rfl); (case hr => first | (go_simp; done) | (go_simp; rfl)); (case hp => exact (Reps.c3 (show Kd.M k60 _ _ _ (⟨(⟨0, 0⟩ : S24), strOfNums y372⟩ : S60) [.int .i64 0, .int .i64 0, .string (strOfNums y372)] from (k60_mkM _ _ _ (⟨(⟨0, 0⟩ : S24), strOfNums y372⟩ : S60) )) (Reps.none _ _))); intro v377 w65 ho66 hb hg_ hnew_; clear hg_ hnew_; (first | rw [← Ny376.out] at ho66 | (simp only [Int.reduceToNat] at ho66; rw [← Ny376.out] at ho66)); have n0_ := Aside0.mk (Kd.R_below (by (with_reducible repeat (first | apply Kd.R_alloc | apply Kd.R_drewN | apply Kd.R_drew)); exact (Kd.R_mono (Kd.R_far (p := ⟨gb375, 2, none⟩) (Kd.R_far (p := ⟨gb375, 1, none⟩) (Kd.R_far (p := ⟨gb375, 0, none⟩) (Kd.R_types HO374.out BK375.out (by decide)) (fun _ hk => hk.2) (.int .i64 0)) (fun _ hk => hk.2) (.int .i64 0)) (fun _ hk => hk.2) (.string (strOfNums y372))) (fun _ h_ => h_.1))) hb); have n1_ := Aside0.mk (Kd.R_lower (Kd.R_newB ho66 (g := gb375) (o := .cells #[.int .i64 0, .int .i64 0, .string (strOfNums y372)] 60 (0, 0)) (by (with_reducible repeat (first | refine blk_drewN ?_ _ | refine blk_drew ?_ | refine blk_alloc ?_ _)); refine blk_put (cs := #[.int .i64 0, .int .i64 0, .string (⟨#[]⟩ : ByteArray)]) ?_ 2 _ rfl; (with_reducible repeat (first | refine blk_drewN ?_ _ | refine blk_drew ?_ | refine blk_alloc ?_ _)); refine blk_put (cs := #[.int .i64 0, .int .i64 0, .string (⟨#[]⟩ : ByteArray)]) ?_ 1 _ rfl; (with_reducible repeat (first | refine blk_drewN ?_ _ | refine blk_drew ?_ | refine blk_alloc ?_ _)); refine blk_put (cs := #[.int .i64 0, .int .i64 0, .string (⟨#[]⟩ : ByteArray)]) ?_ 0 _ rfl; (with_reducible repeat (first | refine blk_drewN ?_ _ | refine blk_drew ?_ | refine blk_alloc ?_ _)); exact BK375.out)) (below_size (pxb HB))); have n2_ := Aside0.mk (blk_below (g := gb375) (o := .cells #[.int .i64 0, .int .i64 0, .string (strOfNums y372)] 60 (0, 0)) (by (with_reducible repeat (first | refine blk_drewN ?_ _ | refine blk_drew ?_ | refine blk_alloc ?_ _)); refine blk_put (cs := #[.int .i64 0, .int .i64 0, .string (⟨#[]⟩ : ByteArray)]) ?_ 2 _ rfl; (with_reducible repeat (first | refine blk_drewN ?_ _ | refine blk_drew ?_ | refine blk_alloc ?_ _)); refine blk_put (cs := #[.int .i64 0, .int .i64 0, .string (⟨#[]⟩ : ByteArray)]) ?_ 1 _ rfl; (with_reducible repeat (first | refine blk_drewN ?_ _ | refine blk_drew ?_ | refine blk_alloc ?_ _)); refine blk_put (cs := #[.int .i64 0, .int .i64 0, .string (⟨#[]⟩ : ByteArray)]) ?_ 0 _ rfl; (with_reducible repeat (first | refine blk_drewN ?_ _ | refine blk_drew ?_ | refine blk_alloc ?_ _)); exact BK375.out) hb); have n3_ := pxs HB hb; clear HO374; clear BK375; clear HB; have HO374 := n0_; have HO378 := n1_; have BK375 := n2_; have HB := n3_; clear n0_ n1_ n2_ n3_; clear hb ho66; obtain ⟨Ao67, co67, eo67⟩ := Kd.R_slice HO378.out; subst eo67) | ((with_reducible refine gate_callee (f := 31) rfl ?_); refine goesL_ (some 74) rfl rfl Try.func31 (by kernel_rfl) rfl #[.string (strOfNums y364), .slice Ao67 y376.length co67] rfl (by (try simp only [List.map_toArray, List.map_cons, List.map_nil]); first | done | rfl | (simp only [List.length_drop, List.length_take]; rfl)) ?_; (with_reducible refine (edit_Apply.calls kj20 (strOfNums y364) _ _ y376 t379 t380 _ ?side1 ?side2 A29.out).mono ?_); (case side1 => repeat (first | exact (Kd.R_reads' HO378.out).2.2 | (with_reducible refine Kd.C_alloc ?_ _) | (with_reducible refine Kd.C_drewN ?_ _) | (with_reducible refine Kd.C_drew ?_))); (case side2 => exact (Kd.R_reads' HO378.out).2.1); rintro e w68 ⟨rfl, hb⟩; refine ⟨_, rfl, ?_⟩; have n0_ := Aside0.mk (Kd.R_below (pxr HO374) hb); have n1_ := Aside0.mk (Kd.R_below (pxr HO378) hb); have n2_ := pxk BK375 hb; have n3_ := pxs HB hb; clear HO374; clear HO378; clear BK375; clear HB; have HO374 := n0_; have HO378 := n1_; have BK375 := n2_; have HB := n3_; clear n0_ n1_ n2_ n3_; (try clear hb); (try clear hb2); (try clear hk); (try clear hi)))
                  go_ret
                  exact ⟨by first | rfl | (simp [errW_none, errW_some] <;> rfl) | (simp [*, errW_none, errW_some] <;> rfl), pxb HB⟩
               ·rw [if_neg c28] at H
                exact absurd H (by simp)
              ·rw [if_neg c27] at H
               exact absurd H (by simp)
     ·rw [if_neg c11] at H
      exact absurd H (by simp)
 ·replace c4 := Bool.eq_false_iff.mpr c4
  subst c4
  have H1 : (some false) = some r := by rw [if_neg (show ¬ (false = true) by decide)] at H; exact H
  clear H
  have H := H1
  clear H1
  obtain rfl := Option.some.inj H
  go_enter Try.func11, Try.ntmps11
  go_wp2_with (first | ((with_reducible refine gate_callee (f := 29) rfl ?_); refine goesL_ (some 14) rfl rfl Try.func29 (by kernel_rfl) rfl #[] rfl (by (try simp only [List.map_toArray, List.map_cons, List.map_nil]); first | done | rfl | (simp only [List.length_drop, List.length_take]; rfl)) ?_; (with_reducible refine (caulkerlaw03_edits.calls k  false _ A3.out).mono ?_); rintro e w69 ⟨rfl, hb⟩; refine ⟨_, rfl, ?_⟩; have n0_ := pxs HB hb; clear HB; have HB := n0_; clear n0_; (try clear hb); (try clear hb2); (try clear hk); (try clear hi)))
  go_ret
  exact ⟨by first | rfl | (simp [errW_none, errW_some] <;> rfl) | (simp [*, errW_none, errW_some] <;> rfl), pxb HB⟩

/-- THE ONE PURE STATEMENT of caulkerlaw03_EditLimits. -/
def caulkerlaw03_EditLimits.Pure : Prop := ∀ (a0 : Int) (a1 : Int), (Lit.int .i64 a0).wf = true → (Lit.int .i64 a1).wf = true → ∃ k, caulkerlaw03_EditLimits.f k a0 a1 = some true

end Go.Proofs.Ytfnemjejfccecaa.X
