/- What the program's functions answer, as Lean functions, and that each call does just that; no condition. Written by a program (px.py) out of the translation. -/
import Derived.Test.YtoljmjhmieaggaaX0
import Derived.Test.YtoljmjhmieaggaaX15
import Derived.Test.YtoljmjhmieaggaaX11
namespace Go.Proofs.Ytoljmjhmieaggaa.X
open Go.RowKit Go.Proofs.YtoljmjhmieaggaaW.PrintWords Go.Proofs.YtoljmjhmieaggaaW.PrintLast Go.Proofs.YtoljmjhmieaggaaW.PrintMore
attribute [local go_sem] max2_int min2_int max_two min_two max_three min_three max_four min_four   -- for this text's walks alone
set_option linter.unusedVariables false
set_option linter.unusedSimpArgs false

/-! ### caulkerlaw04_DiffBack: function 5 -/
def caulkerlaw04_DiffBack.j0 : Nat → ByteArray → ByteArray → Bool → Option (Bool)
 | 0, _, _, _ => none
 | k + 1, x0, x1, x18 => if x18 = true then (some true) else ((diff_Far.f k x0 x1).bind fun bt337 => ((diff_Far.f k x1 x0).bind fun bt339 => (if bt337.2 = true then (if bt339.2 = true then (if bt337.1 = bt339.1 then (if bt337.1 ≤ (wrap64 ((x0.size : Int) + (x1.size : Int))) then (if bt337.1 ≥ (mx (wrap64 ((x0.size : Int) - (x1.size : Int))) (wrap64 ((x1.size : Int) - (x0.size : Int)))) then (some ((bt337.1 == 0) == (x0.toList == x1.toList))) else (none)) else (none)) else (none)) else (none)) else (none))))
def caulkerlaw04_DiffBack.f (k : Nat) (a0 : ByteArray) (a1 : ByteArray) : Option (Bool) := (caulkerlaw04_finds.f k).bind fun t336 => (if t336 = true then (if (a0.size : Int) > 250 then (caulkerlaw04_DiffBack.j0 k a0 a1 true) else (caulkerlaw04_DiffBack.j0 k a0 a1 (decide ((a1.size : Int) > 250)))) else (none))
theorem caulkerlaw04_DiffBack.mono_l : ∀ k, (∀ y0 y1 y2, LeO (caulkerlaw04_DiffBack.j0 k y0 y1 y2) (caulkerlaw04_DiffBack.j0 (k + 1) y0 y1 y2))
 | 0 => fun _ _ _ r h => by simp [caulkerlaw04_DiffBack.j0] at h
 | k + 1 => by
  have ih0 := caulkerlaw04_DiffBack.mono_l k
  ·intro y0 y1 y2
   unfold caulkerlaw04_DiffBack.j0
   repeat' first
   | (with_reducible exact ih0 _ _ _)
   | (with_reducible exact caulkerlaw04_finds.mono _)
   | (with_reducible exact diff_Far.mono _ _ _)
   | (with_reducible exact LeO.refl _)
   | (with_reducible exact LeO.none _)
   | (with_reducible refine LeO.ite ?_ ?_)
   | (with_reducible refine LeO.bind ?_ (fun _ => ?_))
   | exact ih0 _ _ _
   | exact caulkerlaw04_finds.mono _
   | exact diff_Far.mono _ _ _
   | exact LeO.none _
   | refine LeO.ite ?_ ?_
   | refine LeO.bind ?_ (fun _ => ?_)
theorem caulkerlaw04_DiffBack.mono : ∀ a0 a1 k, LeO (caulkerlaw04_DiffBack.f k a0 a1) (caulkerlaw04_DiffBack.f (k + 1) a0 a1) := by
 intro a0 a1 k
 have ih0 := caulkerlaw04_DiffBack.mono_l k
 unfold caulkerlaw04_DiffBack.f
 repeat' first
   | (with_reducible exact ih0 _ _ _)
   | (with_reducible exact caulkerlaw04_finds.mono _)
   | (with_reducible exact diff_Far.mono _ _ _)
   | (with_reducible exact LeO.refl _)
   | (with_reducible exact LeO.none _)
   | (with_reducible refine LeO.ite ?_ ?_)
   | (with_reducible refine LeO.bind ?_ (fun _ => ?_))
   | exact ih0 _ _ _
   | exact caulkerlaw04_finds.mono _
   | exact diff_Far.mono _ _ _
   | exact LeO.none _
   | refine LeO.ite ?_ ?_
   | refine LeO.bind ?_ (fun _ => ?_)
set_option maxHeartbeats 8000000 in
set_option maxRecDepth 100000 in
theorem caulkerlaw04_DiffBack.calls (k : Nat) (a0 : ByteArray) (a1 : ByteArray) (r : Bool) (w : World) (h : caulkerlaw04_DiffBack.f k a0 a1 = some r) :
  Calls Try.prog 5 #[.string a0, .string a1] w fun e w' => e = .returned (.bool r) ∧ Below w.heap.size w w' := by
 have HB := Aside0.mk (Below.refl w.heap.size w)
 have H : ((caulkerlaw04_finds.f k).bind fun t336 => (if t336 = true then (if (a0.size : Int) > 250 then (caulkerlaw04_DiffBack.j0 k a0 a1 true) else (caulkerlaw04_DiffBack.j0 k a0 a1 (decide ((a1.size : Int) > 250)))) else (none))) = some r := h
 clear h
 replace H := Option.bind_eq_some_iff.mp H
 obtain ⟨t336, A30, H⟩ := H
 replace H : (if t336 = true then (if (a0.size : Int) > 250 then (caulkerlaw04_DiffBack.j0 k a0 a1 true) else (caulkerlaw04_DiffBack.j0 k a0 a1 (decide ((a1.size : Int) > 250)))) else (none)) = some r := H
 have A3 := Aside0.mk A30
 clear A30
 by_cases c4 : t336 = true
 ·subst c4
  have H1 : (if (a0.size : Int) > 250 then (caulkerlaw04_DiffBack.j0 k a0 a1 true) else (caulkerlaw04_DiffBack.j0 k a0 a1 (decide ((a1.size : Int) > 250)))) = some r := by rw [if_pos rfl] at H; exact H
  clear H
  have H := H1
  clear H1
  have HC5 := Aside0.mk H
  clear H
  go_enter Try.func5, Try.ntmps5
  go_upto_region 3 with (first | ((with_reducible refine gate_callee (f := 11) rfl ?_); refine goesL_ (some 9) rfl rfl Try.func11 (by kernel_rfl) rfl #[] rfl (by (try simp only [List.map_toArray, List.map_cons, List.map_nil]); first | done | rfl | (simp only [List.length_drop, List.length_take]; rfl)) ?_; (with_reducible refine (caulkerlaw04_finds.calls k  true _ A3.out).mono ?_); rintro e w6 ⟨rfl, hb⟩; refine ⟨_, rfl, ?_⟩; have n0_ := pxs HB hb; clear HB; have HB := n0_; clear n0_; (try clear hb); (try clear hb2); (try clear hk); (try clear hi)))
  (try simp only [Act.put, List.setIfInBounds_toArray, List.set_cons_zero, List.set_cons_succ])
  go_cut [18] (fun v18 wc => ∃ (kq : Nat) (x18_4 : Bool), v18 = .bool x18_4 ∧ Aside0 (caulkerlaw04_DiffBack.j0 kq a0 a1 x18_4 = some r) ∧ Aside0 (kq ≤ k) ∧ Aside0 (Below w.heap.size w wc))
  case first =>
   have H := HC5.out
   clear HC5
   by_cases c7 : (a0.size : Int) > 250
   ·rw [if_pos c7] at H
    have c7b0 : decide (250 < (a0.size : Int)) = true := decide_eq_true c7
    have c7b1 : decide (250 < a0.size) = true := decide_eq_true (by omega)
    clear c7
    (first | rw [c7b0] | (simp only [i64_w, i32_w]; rw [c7b0]) | skip)
    have H' := Aside0.mk H
    clear H
    go_wp2
    go_meet
    case rel => exact ⟨_, (true), (by first | rfl | (simp; done) | (simp [*]; done)), H', ⟨by first | omega | exact Nat.le_refl _⟩, ⟨pxb HB⟩⟩
   ·rw [if_neg c7] at H
    have c7b0 : decide (250 < (a0.size : Int)) = false := decide_eq_false c7
    have c7b1 : decide (250 < a0.size) = false := decide_eq_false (by omega)
    clear c7
    (first | rw [c7b0] | (simp only [i64_w, i32_w]; rw [c7b0]) | skip)
    have H' := Aside0.mk H
    clear H
    go_wp2
    go_meet
    case rel => exact ⟨_, (decide ((a1.size : Int) > 250)), (by first | rfl | (simp; done) | (simp [*]; done)), H', ⟨by first | omega | exact Nat.le_refl _⟩, ⟨pxb HB⟩⟩
  case rest =>
   clear HC5
   try clear c1
   try clear p2
   try clear c4
   try clear c5
   try clear c7
   try clear c7b0
   try clear c7b1
   obtain ⟨kq, x18_4, rfl, HA, HJ4, HB⟩ := hcut
   cases kq with
   | zero => exact absurd HA.out (by simp [caulkerlaw04_DiffBack.j0])
   | succ kj4 =>
    have H := HA.out
    clear HA
    simp only [caulkerlaw04_DiffBack.j0] at H
    by_cases c8 : x18_4 = true
    ·subst c8
     have H1 : (some true) = some r := by rw [if_pos rfl] at H; exact H
     clear H
     have H := H1
     clear H1
     obtain rfl := Option.some.inj H
     go_wp2
     go_ret
     exact ⟨by first | rfl | (simp [errW_none, errW_some] <;> rfl) | (simp [*, errW_none, errW_some] <;> rfl), pxb HB⟩
    ·replace c8 := Bool.eq_false_iff.mpr c8
     subst c8
     have H1 : ((diff_Far.f kj4 a0 a1).bind fun bt337 => ((diff_Far.f kj4 a1 a0).bind fun bt339 => (if bt337.2 = true then (if bt339.2 = true then (if bt337.1 = bt339.1 then (if bt337.1 ≤ (wrap64 ((a0.size : Int) + (a1.size : Int))) then (if bt337.1 ≥ (mx (wrap64 ((a0.size : Int) - (a1.size : Int))) (wrap64 ((a1.size : Int) - (a0.size : Int)))) then (some ((bt337.1 == 0) == (a0.toList == a1.toList))) else (none)) else (none)) else (none)) else (none)) else (none)))) = some r := by rw [if_neg (show ¬ (false = true) by decide)] at H; exact H
     clear H
     have H := H1
     clear H1
     replace H := Option.bind_eq_some_iff.mp H
     obtain ⟨⟨t337, t338⟩, A90, H⟩ := H
     replace H : ((diff_Far.f kj4 a1 a0).bind fun bt339 => (if t338 = true then (if bt339.2 = true then (if t337 = bt339.1 then (if t337 ≤ (wrap64 ((a0.size : Int) + (a1.size : Int))) then (if t337 ≥ (mx (wrap64 ((a0.size : Int) - (a1.size : Int))) (wrap64 ((a1.size : Int) - (a0.size : Int)))) then (some ((t337 == 0) == (a0.toList == a1.toList))) else (none)) else (none)) else (none)) else (none)) else (none))) = some r := H
     have A9 := Aside0.mk A90
     clear A90
     replace H := Option.bind_eq_some_iff.mp H
     obtain ⟨⟨t339, t340⟩, A100, H⟩ := H
     replace H : (if t338 = true then (if t340 = true then (if t337 = t339 then (if t337 ≤ (wrap64 ((a0.size : Int) + (a1.size : Int))) then (if t337 ≥ (mx (wrap64 ((a0.size : Int) - (a1.size : Int))) (wrap64 ((a1.size : Int) - (a0.size : Int)))) then (some ((t337 == 0) == (a0.toList == a1.toList))) else (none)) else (none)) else (none)) else (none)) else (none)) = some r := H
     have A10 := Aside0.mk A100
     clear A100
     by_cases c11 : t338 = true
     ·subst c11
      have H1 : (if t340 = true then (if t337 = t339 then (if t337 ≤ (wrap64 ((a0.size : Int) + (a1.size : Int))) then (if t337 ≥ (mx (wrap64 ((a0.size : Int) - (a1.size : Int))) (wrap64 ((a1.size : Int) - (a0.size : Int)))) then (some ((t337 == 0) == (a0.toList == a1.toList))) else (none)) else (none)) else (none)) else (none)) = some r := by rw [if_pos rfl] at H; exact H
      clear H
      have H := H1
      clear H1
      by_cases c12 : t340 = true
      ·subst c12
       have H1 : (if t337 = t339 then (if t337 ≤ (wrap64 ((a0.size : Int) + (a1.size : Int))) then (if t337 ≥ (mx (wrap64 ((a0.size : Int) - (a1.size : Int))) (wrap64 ((a1.size : Int) - (a0.size : Int)))) then (some ((t337 == 0) == (a0.toList == a1.toList))) else (none)) else (none)) else (none)) = some r := by rw [if_pos rfl] at H; exact H
       clear H
       have H := H1
       clear H1
       by_cases c13 : t337 = t339
       ·rw [if_pos c13] at H
        have c13b0 : (t337 == t339) = true := beq_iff_eq.mpr c13
        have c13b1 : (t337 != t339) = false := bne_eq_false_iff_eq.mpr c13
        clear c13
        by_cases c14 : t337 ≤ (wrap64 ((a0.size : Int) + (a1.size : Int)))
        ·rw [if_pos c14] at H
         have c14b0 : decide (t337 ≤ (wrap64 ((a0.size : Int) + (a1.size : Int)))) = true := decide_eq_true c14
         clear c14
         obtain ⟨ji15, hji15⟩ : ∃ j_ : Int, (mx (wrap64 ((a0.size : Int) - (a1.size : Int))) (wrap64 ((a1.size : Int) - (a0.size : Int)))) = j_ := ⟨_, rfl⟩
         replace H : (if t337 ≥ (ji15) then (some ((t337 == 0) == (a0.toList == a1.toList))) else (none)) = some r := by first | (rw [hji15] at H; exact H) | (simp only [hji15] at H ⊢; exact H)
         (try rw [hji15] at A9)
         (try rw [hji15] at A10)
         have hji15_ : (if (wrap64 ((a0.size : Int) - (a1.size : Int))) < (wrap64 ((a1.size : Int) - (a0.size : Int))) then (wrap64 ((a1.size : Int) - (a0.size : Int))) else (wrap64 ((a0.size : Int) - (a1.size : Int)))) = ji15 := hji15
         by_cases c16 : t337 ≥ (ji15)
         ·rw [if_pos c16] at H
          have c16b0 : decide ((ji15) ≤ t337) = true := decide_eq_true c16
          clear c16
          obtain rfl := Option.some.inj H
          go_wp2_with (first | ((with_reducible refine gate_callee (f := 15) rfl ?_); refine goesL_ (some 22) rfl rfl Try.func15 (by kernel_rfl) rfl #[.string a0, .string a1] rfl (by (try simp only [List.map_toArray, List.map_cons, List.map_nil]); first | done | rfl | (simp only [List.length_drop, List.length_take]; rfl)) ?_; (with_reducible refine (diff_Far.calls kj4 a0 a1 t337 true _ A9.out).mono ?_); rintro e w17 ⟨rfl, hb⟩; refine ⟨_, rfl, ?_⟩; have n0_ := pxs HB hb; clear HB; have HB := n0_; clear n0_; (try clear hb); (try clear hb2); (try clear hk); (try clear hi)) | ((with_reducible refine gate_callee (f := 15) rfl ?_); refine goesL_ (some 28) rfl rfl Try.func15 (by kernel_rfl) rfl #[.string a1, .string a0] rfl (by (try simp only [List.map_toArray, List.map_cons, List.map_nil]); first | done | rfl | (simp only [List.length_drop, List.length_take]; rfl)) ?_; (with_reducible refine (diff_Far.calls kj4 a1 a0 t339 true _ A10.out).mono ?_); rintro e w18 ⟨rfl, hb⟩; refine ⟨_, rfl, ?_⟩; have n0_ := pxs HB hb; clear HB; have HB := n0_; clear n0_; (try clear hb); (try clear hb2); (try clear hk); (try clear hi)))
          go_ret
          exact ⟨by first | rfl | (simp [errW_none, errW_some] <;> rfl) | (simp only [← hji15]; first | rfl | (simp [errW_none, errW_some] <;> rfl)) | (simp [*, errW_none, errW_some] <;> rfl), pxb HB⟩
         ·rw [if_neg c16] at H
          exact absurd H (by simp)
        ·rw [if_neg c14] at H
         exact absurd H (by simp)
       ·rw [if_neg c13] at H
        exact absurd H (by simp)
      ·replace c12 := Bool.eq_false_iff.mpr c12
       subst c12
       have H1 : (none) = some r := by rw [if_neg (show ¬ (false = true) by decide)] at H; exact H
       clear H
       have H := H1
       clear H1
       exact absurd H (by simp)
     ·replace c11 := Bool.eq_false_iff.mpr c11
      subst c11
      have H1 : (none) = some r := by rw [if_neg (show ¬ (false = true) by decide)] at H; exact H
      clear H
      have H := H1
      clear H1
      exact absurd H (by simp)
 ·replace c4 := Bool.eq_false_iff.mpr c4
  subst c4
  have H1 : (none) = some r := by rw [if_neg (show ¬ (false = true) by decide)] at H; exact H
  clear H
  have H := H1
  clear H1
  exact absurd H (by simp)

/-- THE ONE PURE STATEMENT of caulkerlaw04_DiffBack. -/
def caulkerlaw04_DiffBack.Pure : Prop := ∀ (a0 : ByteArray) (a1 : ByteArray), a0.size ≤ 140737488351232 → a1.size ≤ 140737488351232 → ∃ k, caulkerlaw04_DiffBack.f k a0 a1 = some true

end Go.Proofs.Ytoljmjhmieaggaa.X
