/- What the program's functions answer, as Lean functions, and that each call does just that; no condition. Written by a program (px.py) out of the translation. -/
import Derived.Test.YtoljmjhmieaggaaX0
import Derived.Test.YtoljmjhmieaggaaX12
import Derived.Test.YtoljmjhmieaggaaX16
import Derived.Test.YtoljmjhmieaggaaX11
import Derived.Test.YtoljmjhmieaggaaX13
namespace Go.Proofs.Ytoljmjhmieaggaa.X
open Go.RowKit Go.Proofs.YtoljmjhmieaggaaW.PrintWords Go.Proofs.YtoljmjhmieaggaaW.PrintLast Go.Proofs.YtoljmjhmieaggaaW.PrintMore
attribute [local go_sem] max2_int min2_int max_two min_two max_three min_three max_four min_four   -- for this text's walks alone
set_option linter.unusedVariables false
set_option linter.unusedSimpArgs false

/-! ### caulkerlaw04_DiffAny: function 4 -/
mutual
def caulkerlaw04_DiffAny.j0 : Nat → ByteArray → ByteArray → Int → Bool → Option (Bool)
 | 0, _, _, _, _ => none
 | k + 1, x0, x1, x2, x32 => if x32 = true then (some true) else (if 0 ≤ x2 then (if (x2 : Int).toNat ≤ 281474976710656 then ((some (List.replicate (x2 : Int).toNat 0 : List Int)).bind fun y324 => (if x0.size + (strOfNums y324).size ≤ 9223372036854775807 then (if x1.size + (strOfNums y324).size ≤ 9223372036854775807 then (if (x1 ++ (strOfNums y324)).size + x1.size ≤ 9223372036854775807 then ((diff_Bytes.f k (x0 ++ (strOfNums y324)) ((x1 ++ (strOfNums y324)) ++ x1)).bind fun bt327 => (if ((x0 ++ (strOfNums y324)).size : Int) > 16384 then (caulkerlaw04_DiffAny.j1 k (x0 ++ (strOfNums y324)) ((x1 ++ (strOfNums y324)) ++ x1) bt327.1 bt327.2.1 bt327.2.2 true) else (caulkerlaw04_DiffAny.j1 k (x0 ++ (strOfNums y324)) ((x1 ++ (strOfNums y324)) ++ x1) bt327.1 bt327.2.1 bt327.2.2 (decide ((((x1 ++ (strOfNums y324)) ++ x1).size : Int) > 16384))))) else (none)) else (none)) else (none))) else (none)) else (none))
def caulkerlaw04_DiffAny.j1 : Nat → ByteArray → ByteArray → List (S41) → Bool → Int → Bool → Option (Bool)
 | 0, _, _, _, _, _, _ => none
 | k + 1, x8, x9, x10, x11, x12, x58 => if x58 = true then (if x12 = 2 then (if (x10.length : Int) = 0 then (some (!x11)) else (none)) else (none)) else ((caulkerref03_Apply.f k x8 x10).bind fun bt332 => (if x12 = 0 then (if bt332.2 = 0 then (if bt332.1.toList = x9.toList then ((edit_Cost.f k x10).bind fun t334 => (if t334 ≤ (wrap64 ((x8.size : Int) + (x9.size : Int))) then (if x11 = true then ((edit_Cost.f k x10).bind fun t335 => (some (decide (t335 ≤ 512)))) else (some true)) else (none))) else (none)) else (none)) else (none)))
end
def caulkerlaw04_DiffAny.f (k : Nat) (a0 : ByteArray) (a1 : ByteArray) (a2 : Int) : Option (Bool) := (caulkerlaw04_finds.f k).bind fun t323 => (if t323 = true then (if (a0.size : Int) > 300 then (caulkerlaw04_DiffAny.j0 k a0 a1 a2 true) else (if (a1.size : Int) > 300 then (caulkerlaw04_DiffAny.j0 k a0 a1 a2 true) else (if a2 < 0 then (caulkerlaw04_DiffAny.j0 k a0 a1 a2 true) else (caulkerlaw04_DiffAny.j0 k a0 a1 a2 (decide (a2 > 17000)))))) else (none))
theorem caulkerlaw04_DiffAny.mono_l : ∀ k, (∀ y0 y1 y2 y3, LeO (caulkerlaw04_DiffAny.j0 k y0 y1 y2 y3) (caulkerlaw04_DiffAny.j0 (k + 1) y0 y1 y2 y3)) ∧ (∀ y0 y1 y2 y3 y4 y5, LeO (caulkerlaw04_DiffAny.j1 k y0 y1 y2 y3 y4 y5) (caulkerlaw04_DiffAny.j1 (k + 1) y0 y1 y2 y3 y4 y5))
 | 0 => ⟨fun _ _ _ _ r h => by simp [caulkerlaw04_DiffAny.j0] at h, fun _ _ _ _ _ _ r h => by simp [caulkerlaw04_DiffAny.j1] at h⟩
 | k + 1 => by
  obtain ⟨ih0, ih1⟩ := caulkerlaw04_DiffAny.mono_l k
  refine ⟨?_, ?_⟩
  ·intro y0 y1 y2 y3
   unfold caulkerlaw04_DiffAny.j0
   repeat' first
   | (with_reducible exact ih0 _ _ _ _)
   | (with_reducible exact ih1 _ _ _ _ _ _)
   | (with_reducible exact caulkerlaw04_finds.mono _)
   | (with_reducible exact caulkerref03_Apply.mono _ _ _)
   | (with_reducible exact diff_Bytes.mono _ _ _)
   | (with_reducible exact edit_Cost.mono _ _)
   | (with_reducible exact LeO.refl _)
   | (with_reducible exact LeO.none _)
   | (with_reducible refine LeO.ite ?_ ?_)
   | (with_reducible refine LeO.bind ?_ (fun _ => ?_))
   | exact ih0 _ _ _ _
   | exact ih1 _ _ _ _ _ _
   | exact caulkerlaw04_finds.mono _
   | exact caulkerref03_Apply.mono _ _ _
   | exact diff_Bytes.mono _ _ _
   | exact edit_Cost.mono _ _
   | exact LeO.none _
   | refine LeO.ite ?_ ?_
   | refine LeO.bind ?_ (fun _ => ?_)
  ·intro y0 y1 y2 y3 y4 y5
   unfold caulkerlaw04_DiffAny.j1
   repeat' first
   | (with_reducible exact ih0 _ _ _ _)
   | (with_reducible exact ih1 _ _ _ _ _ _)
   | (with_reducible exact caulkerlaw04_finds.mono _)
   | (with_reducible exact caulkerref03_Apply.mono _ _ _)
   | (with_reducible exact diff_Bytes.mono _ _ _)
   | (with_reducible exact edit_Cost.mono _ _)
   | (with_reducible exact LeO.refl _)
   | (with_reducible exact LeO.none _)
   | (with_reducible refine LeO.ite ?_ ?_)
   | (with_reducible refine LeO.bind ?_ (fun _ => ?_))
   | exact ih0 _ _ _ _
   | exact ih1 _ _ _ _ _ _
   | exact caulkerlaw04_finds.mono _
   | exact caulkerref03_Apply.mono _ _ _
   | exact diff_Bytes.mono _ _ _
   | exact edit_Cost.mono _ _
   | exact LeO.none _
   | refine LeO.ite ?_ ?_
   | refine LeO.bind ?_ (fun _ => ?_)
theorem caulkerlaw04_DiffAny.mono : ∀ a0 a1 a2 k, LeO (caulkerlaw04_DiffAny.f k a0 a1 a2) (caulkerlaw04_DiffAny.f (k + 1) a0 a1 a2) := by
 intro a0 a1 a2 k
 obtain ⟨ih0, ih1⟩ := caulkerlaw04_DiffAny.mono_l k
 unfold caulkerlaw04_DiffAny.f
 repeat' first
   | (with_reducible exact ih0 _ _ _ _)
   | (with_reducible exact ih1 _ _ _ _ _ _)
   | (with_reducible exact caulkerlaw04_finds.mono _)
   | (with_reducible exact caulkerref03_Apply.mono _ _ _)
   | (with_reducible exact diff_Bytes.mono _ _ _)
   | (with_reducible exact edit_Cost.mono _ _)
   | (with_reducible exact LeO.refl _)
   | (with_reducible exact LeO.none _)
   | (with_reducible refine LeO.ite ?_ ?_)
   | (with_reducible refine LeO.bind ?_ (fun _ => ?_))
   | exact ih0 _ _ _ _
   | exact ih1 _ _ _ _ _ _
   | exact caulkerlaw04_finds.mono _
   | exact caulkerref03_Apply.mono _ _ _
   | exact diff_Bytes.mono _ _ _
   | exact edit_Cost.mono _ _
   | exact LeO.none _
   | refine LeO.ite ?_ ?_
   | refine LeO.bind ?_ (fun _ => ?_)
set_option maxHeartbeats 8000000 in
set_option maxRecDepth 100000 in
theorem caulkerlaw04_DiffAny.calls (k : Nat) (a0 : ByteArray) (a1 : ByteArray) (a2 : Int) (r : Bool) (w : World) (h : caulkerlaw04_DiffAny.f k a0 a1 a2 = some r) :
  Calls Try.prog 4 #[.string a0, .string a1, .int .i64 a2] w fun e w' => e = .returned (.bool r) ∧ Below w.heap.size w w' := by
 have HB := Aside0.mk (Below.refl w.heap.size w)
 have H : ((caulkerlaw04_finds.f k).bind fun t323 => (if t323 = true then (if (a0.size : Int) > 300 then (caulkerlaw04_DiffAny.j0 k a0 a1 a2 true) else (if (a1.size : Int) > 300 then (caulkerlaw04_DiffAny.j0 k a0 a1 a2 true) else (if a2 < 0 then (caulkerlaw04_DiffAny.j0 k a0 a1 a2 true) else (caulkerlaw04_DiffAny.j0 k a0 a1 a2 (decide (a2 > 17000)))))) else (none))) = some r := h
 clear h
 replace H := Option.bind_eq_some_iff.mp H
 obtain ⟨t323, A40, H⟩ := H
 replace H : (if t323 = true then (if (a0.size : Int) > 300 then (caulkerlaw04_DiffAny.j0 k a0 a1 a2 true) else (if (a1.size : Int) > 300 then (caulkerlaw04_DiffAny.j0 k a0 a1 a2 true) else (if a2 < 0 then (caulkerlaw04_DiffAny.j0 k a0 a1 a2 true) else (caulkerlaw04_DiffAny.j0 k a0 a1 a2 (decide (a2 > 17000)))))) else (none)) = some r := H
 have A4 := Aside0.mk A40
 clear A40
 by_cases c5 : t323 = true
 ·subst c5
  have H1 : (if (a0.size : Int) > 300 then (caulkerlaw04_DiffAny.j0 k a0 a1 a2 true) else (if (a1.size : Int) > 300 then (caulkerlaw04_DiffAny.j0 k a0 a1 a2 true) else (if a2 < 0 then (caulkerlaw04_DiffAny.j0 k a0 a1 a2 true) else (caulkerlaw04_DiffAny.j0 k a0 a1 a2 (decide (a2 > 17000)))))) = some r := by rw [if_pos rfl] at H; exact H
  clear H
  have H := H1
  clear H1
  have HC6 := Aside0.mk H
  clear H
  go_enter Try.func4, Try.ntmps4
  go_upto_region 3 with (first | ((with_reducible refine gate_callee (f := 11) rfl ?_); refine goesL_ (some 15) rfl rfl Try.func11 (by kernel_rfl) rfl #[] rfl (by (try simp only [List.map_toArray, List.map_cons, List.map_nil]); first | done | rfl | (simp only [List.length_drop, List.length_take]; rfl)) ?_; (with_reducible refine (caulkerlaw04_finds.calls k  true _ A4.out).mono ?_); rintro e w7 ⟨rfl, hb⟩; refine ⟨_, rfl, ?_⟩; have n0_ := pxs HB hb; clear HB; have HB := n0_; clear n0_; (try clear hb); (try clear hb2); (try clear hk); (try clear hi)))
  (try simp only [Act.put, List.setIfInBounds_toArray, List.set_cons_zero, List.set_cons_succ])
  go_cut [32] (fun v32 wc => ∃ (kq : Nat) (x32_5 : Bool), v32 = .bool x32_5 ∧ Aside0 (caulkerlaw04_DiffAny.j0 kq a0 a1 a2 x32_5 = some r) ∧ Aside0 (kq ≤ k) ∧ Aside0 (Below w.heap.size w wc))
  case first =>
   have H := HC6.out
   clear HC6
   by_cases c8 : (a0.size : Int) > 300
   ·rw [if_pos c8] at H
    have c8b0 : decide (300 < (a0.size : Int)) = true := decide_eq_true c8
    have c8b1 : decide (300 < a0.size) = true := decide_eq_true (by omega)
    clear c8
    (first | rw [c8b0] | (simp only [i64_w, i32_w]; rw [c8b0]) | skip)
    have H' := Aside0.mk H
    clear H
    go_wp2
    go_meet
    case rel => exact ⟨_, (true), (by first | rfl | (simp; done) | (simp [*]; done)), H', ⟨by first | omega | exact Nat.le_refl _⟩, ⟨pxb HB⟩⟩
   ·rw [if_neg c8] at H
    have c8b0 : decide (300 < (a0.size : Int)) = false := decide_eq_false c8
    have c8b1 : decide (300 < a0.size) = false := decide_eq_false (by omega)
    clear c8
    (first | rw [c8b0] | (simp only [i64_w, i32_w]; rw [c8b0]) | skip)
    by_cases c9 : (a1.size : Int) > 300
    ·rw [if_pos c9] at H
     have c9b0 : decide (300 < (a1.size : Int)) = true := decide_eq_true c9
     have c9b1 : decide (300 < a1.size) = true := decide_eq_true (by omega)
     clear c9
     have H' := Aside0.mk H
     clear H
     go_wp2
     go_meet
     case rel => exact ⟨_, (true), (by first | rfl | (simp; done) | (simp [*]; done)), H', ⟨by first | omega | exact Nat.le_refl _⟩, ⟨pxb HB⟩⟩
    ·rw [if_neg c9] at H
     have c9b0 : decide (300 < (a1.size : Int)) = false := decide_eq_false c9
     have c9b1 : decide (300 < a1.size) = false := decide_eq_false (by omega)
     clear c9
     by_cases c10 : a2 < 0
     ·rw [if_pos c10] at H
      have c10b0 : decide (a2 < 0) = true := decide_eq_true c10
      clear c10
      have H' := Aside0.mk H
      clear H
      go_wp2
      go_meet
      case rel => exact ⟨_, (true), (by first | rfl | (simp; done) | (simp [*]; done)), H', ⟨by first | omega | exact Nat.le_refl _⟩, ⟨pxb HB⟩⟩
     ·rw [if_neg c10] at H
      have c10b0 : decide (a2 < 0) = false := decide_eq_false c10
      clear c10
      have H' := Aside0.mk H
      clear H
      go_wp2
      go_meet
      case rel => exact ⟨_, (decide (a2 > 17000)), (by first | rfl | (simp; done) | (simp [*]; done)), H', ⟨by first | omega | exact Nat.le_refl _⟩, ⟨pxb HB⟩⟩
  case rest =>
   clear HC6
   try clear c1
   try clear p2
   try clear c4
   try clear c5
   try clear c8
   try clear c8b0
   try clear c8b1
   try clear c9
   try clear c9b0
   try clear c9b1
   try clear c10
   try clear c10b0
   obtain ⟨kq, x32_5, rfl, HA, HJ5, HB⟩ := hcut
   cases kq with
   | zero => exact absurd HA.out (by simp [caulkerlaw04_DiffAny.j0])
   | succ kj5 =>
    have H := HA.out
    clear HA
    simp only [caulkerlaw04_DiffAny.j0] at H
    by_cases c11 : x32_5 = true
    ·subst c11
     have H1 : (some true) = some r := by rw [if_pos rfl] at H; exact H
     clear H
     have H := H1
     clear H1
     obtain rfl := Option.some.inj H
     go_wp2
     go_ret
     exact ⟨by first | rfl | (simp [errW_none, errW_some] <;> rfl) | (simp [*, errW_none, errW_some] <;> rfl), pxb HB⟩
    ·replace c11 := Bool.eq_false_iff.mpr c11
     subst c11
     have H1 : (if 0 ≤ a2 then (if (a2 : Int).toNat ≤ 281474976710656 then ((some (List.replicate (a2 : Int).toNat 0 : List Int)).bind fun y324 => (if a0.size + (strOfNums y324).size ≤ 9223372036854775807 then (if a1.size + (strOfNums y324).size ≤ 9223372036854775807 then (if (a1 ++ (strOfNums y324)).size + a1.size ≤ 9223372036854775807 then ((diff_Bytes.f kj5 (a0 ++ (strOfNums y324)) ((a1 ++ (strOfNums y324)) ++ a1)).bind fun bt327 => (if ((a0 ++ (strOfNums y324)).size : Int) > 16384 then (caulkerlaw04_DiffAny.j1 kj5 (a0 ++ (strOfNums y324)) ((a1 ++ (strOfNums y324)) ++ a1) bt327.1 bt327.2.1 bt327.2.2 true) else (caulkerlaw04_DiffAny.j1 kj5 (a0 ++ (strOfNums y324)) ((a1 ++ (strOfNums y324)) ++ a1) bt327.1 bt327.2.1 bt327.2.2 (decide ((((a1 ++ (strOfNums y324)) ++ a1).size : Int) > 16384))))) else (none)) else (none)) else (none))) else (none)) else (none)) = some r := by rw [if_neg (show ¬ (false = true) by decide)] at H; exact H
     clear H
     have H := H1
     clear H1
     by_cases c12 : 0 ≤ a2
     ·rw [if_pos c12] at H
      have c12b0 := eq_true c12
      have c12b1 : decide (0 ≤ a2) = true := decide_eq_true c12
      clear c12
      by_cases c13 : (a2 : Int).toNat ≤ 281474976710656
      ·rw [if_pos c13] at H
       have c13b0 := eq_true c13
       have c13b1 : decide ((a2 : Int).toNat ≤ 281474976710656) = true := decide_eq_true c13
       clear c13
       obtain ⟨y324, hy324⟩ : ∃ y_ : List Int, y_ = (List.replicate (a2 : Int).toNat 0) := ⟨_, rfl⟩
       replace H : (if a0.size + (strOfNums y324).size ≤ 9223372036854775807 then (if a1.size + (strOfNums y324).size ≤ 9223372036854775807 then (if (a1 ++ (strOfNums y324)).size + a1.size ≤ 9223372036854775807 then ((diff_Bytes.f kj5 (a0 ++ (strOfNums y324)) ((a1 ++ (strOfNums y324)) ++ a1)).bind fun bt327 => (if ((a0 ++ (strOfNums y324)).size : Int) > 16384 then (caulkerlaw04_DiffAny.j1 kj5 (a0 ++ (strOfNums y324)) ((a1 ++ (strOfNums y324)) ++ a1) bt327.1 bt327.2.1 bt327.2.2 true) else (caulkerlaw04_DiffAny.j1 kj5 (a0 ++ (strOfNums y324)) ((a1 ++ (strOfNums y324)) ++ a1) bt327.1 bt327.2.1 bt327.2.2 (decide ((((a1 ++ (strOfNums y324)) ++ a1).size : Int) > 16384))))) else (none)) else (none)) else (none)) = some r := by first | (rw [hy324]; with_reducible exact H) | (have H2_ := (Option.bind_some _ _).symm.trans H; rw [hy324]; with_reducible exact H2_) | (have H2_ := (Option.bind_some _ _).symm.trans H; with_reducible exact H2_) | with_reducible exact H | (rw [hy324]; exact H) | exact H
       have Ny324 := Aside0.mk hy324
       clear hy324
       by_cases c14 : a0.size + (strOfNums y324).size ≤ 9223372036854775807
       ·rw [if_pos c14] at H
        have c14b0 := eq_true c14
        have c14b1 : decide (a0.size + (strOfNums y324).size ≤ 9223372036854775807) = true := decide_eq_true c14
        try have c14b2 : (9223372036854775807 < a0.size + (strOfNums y324).size) = False := eq_false (Nat.not_lt.2 c14)
        by_cases c15 : a1.size + (strOfNums y324).size ≤ 9223372036854775807
        ·rw [if_pos c15] at H
         have c15b0 := eq_true c15
         have c15b1 : decide (a1.size + (strOfNums y324).size ≤ 9223372036854775807) = true := decide_eq_true c15
         try have c15b2 : (9223372036854775807 < a1.size + (strOfNums y324).size) = False := eq_false (Nat.not_lt.2 c15)
         by_cases c16 : (a1 ++ (strOfNums y324)).size + a1.size ≤ 9223372036854775807
         ·rw [if_pos c16] at H
          have c16b0 := eq_true c16
          have c16b1 : decide ((a1 ++ (strOfNums y324)).size + a1.size ≤ 9223372036854775807) = true := decide_eq_true c16
          try have c16b2 : (9223372036854775807 < (a1 ++ (strOfNums y324)).size + a1.size) = False := eq_false (Nat.not_lt.2 c16)
          replace H := Option.bind_eq_some_iff.mp H
          obtain ⟨⟨t327, t328, t329⟩, A170, H⟩ := H
          replace H : (if ((a0 ++ (strOfNums y324)).size : Int) > 16384 then (caulkerlaw04_DiffAny.j1 kj5 (a0 ++ (strOfNums y324)) ((a1 ++ (strOfNums y324)) ++ a1) t327 t328 t329 true) else (caulkerlaw04_DiffAny.j1 kj5 (a0 ++ (strOfNums y324)) ((a1 ++ (strOfNums y324)) ++ a1) t327 t328 t329 (decide ((((a1 ++ (strOfNums y324)) ++ a1).size : Int) > 16384)))) = some r := H
          have A17 := Aside0.mk A170
          clear A170
          have HC18 := Aside0.mk H
          clear H
          go_upto_region 8 with (first | ((with_reducible refine gate_dst (N := 34) rfl ?_); refine Kd.R_make (Kd.int .u8) _ 5 rfl (N := 34) rfl 34 _ _ rfl a2 rfl rfl Try.underlying34 (.int .u8 0) 1 info5 rfl (by decide) (by omega) 0 (ok := fun _ => True) (okp := fun _ => True) rfl (fun _ hk => hk) trivial (of_decide_eq_true (by first | (with_reducible assumption) | assumption)) (Nat.le_trans (Nat.mul_le_mul_right _ (of_decide_eq_true (by first | (with_reducible assumption) | assumption) : a2.toNat ≤ 281474976710656)) (by omega)) (Below.refl _ _) (Nat.le_refl _) ?_; intro v325 w19 ho20 hb hg_ hnew_; clear hg_ hnew_; (first | rw [← Ny324.out] at ho20 | (simp only [Int.reduceToNat] at ho20; rw [← Ny324.out] at ho20)); have n0_ := Aside0.mk (Kd.R_lower ho20 (below_size (pxb HB))); have n1_ := pxs HB hb; clear HB; have HO326 := n0_; have HB := n1_; clear n0_ n1_; clear hb ho20; have hcv21 := own_string (P := Try.prog) Try.underlying34 Try.underlying5 Try.underlying9 (Kd.own_of_R HO326.out)) | ((with_reducible refine gate_callee (f := 12) rfl ?_); refine goesL_ (some 47) rfl rfl Try.func12 (by kernel_rfl) rfl #[.string (a0 ++ (strOfNums y324)), .string ((a1 ++ (strOfNums y324)) ++ a1)] rfl (by (try simp only [List.map_toArray, List.map_cons, List.map_nil]); first | done | rfl | (simp only [List.length_drop, List.length_take]; rfl)) ?_; (with_reducible refine (diff_Bytes.calls kj5 (a0 ++ (strOfNums y324)) ((a1 ++ (strOfNums y324)) ++ a1) t327 t328 t329 _ A17.out).mono ?_); rintro e w22 ⟨v330, rfl, ho0, hb⟩; refine ⟨_, rfl, ?_⟩; have n0_ := Aside0.mk (Kd.R_below (pxr HO326) hb); have n1_ := Aside0.mk (Kd.R_lower ho0 (below_size (pxb HB))); have n2_ := pxs HB hb; clear HO326; clear HB; have HO326 := n0_; have HO331 := n1_; have HB := n2_; clear n0_ n1_ n2_; (try clear hb); (try clear hb2); (try clear hk); (try clear hi); (try clear ho0)))
          (try simp only [Act.put, List.setIfInBounds_toArray, List.set_cons_zero, List.set_cons_succ])
          go_cut [58] (fun v58 wc => ∃ (kq : Nat) (x58_17 : Bool), v58 = .bool x58_17 ∧ Aside0 (caulkerlaw04_DiffAny.j1 kq (a0 ++ (strOfNums y324)) ((a1 ++ (strOfNums y324)) ++ a1) t327 t328 t329 x58_17 = some r) ∧ Aside0 (kq ≤ kj5) ∧ Aside0 (Kd.R k41 41 wc w.heap.size (fun _ => True) v330 t327) ∧ Aside0 (Below w.heap.size w wc))
          case first =>
           have H := HC18.out
           clear HC18
           by_cases c23 : ((a0 ++ (strOfNums y324)).size : Int) > 16384
           ·rw [if_pos c23] at H
            have c23b0 : decide (16384 < ((a0 ++ (strOfNums y324)).size : Int)) = true := decide_eq_true c23
            try have c23b12 : ((16384 : Int) < (a0.size : Int) + ((strOfNums y324).size : Int)) = True := eq_true (by have h_ := c23; rw [ByteArray.size_append] at h_; omega)
            have c23b1 : decide (16384 < (a0 ++ (strOfNums y324)).size) = true := decide_eq_true (by omega)
            clear c23
            (first | rw [c23b0] | (simp only [i64_w, i32_w]; rw [c23b0]) | skip)
            have H' := Aside0.mk H
            clear H
            go_wp2
            go_meet
            case rel => exact ⟨_, (true), (by first | rfl | (simp; done) | (simp [*]; done)), H', ⟨by have := HJ5.out; first | omega | exact Nat.le_refl _⟩, ⟨pxr HO331⟩, ⟨pxb HB⟩⟩
           ·rw [if_neg c23] at H
            have c23b0 : decide (16384 < ((a0 ++ (strOfNums y324)).size : Int)) = false := decide_eq_false c23
            try have c23b12 : ((16384 : Int) < (a0.size : Int) + ((strOfNums y324).size : Int)) = False := eq_false (by have h_ := c23; rw [ByteArray.size_append] at h_; omega)
            have c23b1 : decide (16384 < (a0 ++ (strOfNums y324)).size) = false := decide_eq_false (by omega)
            clear c23
            (first | rw [c23b0] | (simp only [i64_w, i32_w]; rw [c23b0]) | skip)
            have H' := Aside0.mk H
            clear H
            go_wp2
            go_meet
            case rel => exact ⟨_, (decide ((((a1 ++ (strOfNums y324)) ++ a1).size : Int) > 16384)), (by first | rfl | (simp; done) | (simp [*]; done)), H', ⟨by have := HJ5.out; first | omega | exact Nat.le_refl _⟩, ⟨pxr HO331⟩, ⟨pxb HB⟩⟩
          case rest =>
           clear HC18
           try clear c1
           try clear c2
           try clear p2
           try clear hcv2
           try clear c4
           try clear c5
           try clear c8
           try clear c8b0
           try clear c8b1
           try clear c9
           try clear c9b0
           try clear c9b1
           try clear c10
           try clear c10b0
           try clear c11
           try clear c12
           try clear c12b0
           try clear c12b1
           try clear c13
           try clear c13b0
           try clear c13b1
           try clear c14
           try clear c14b0
           try clear c14b1
           try clear c14b2
           try clear c15
           try clear c15b0
           try clear c15b1
           try clear c15b2
           try clear c16
           try clear c16b0
           try clear c16b1
           try clear c16b2
           try clear hcv21
           try clear c23
           try clear c23b0
           try clear c23b1
           try clear p2
           obtain ⟨kq, x58_17, rfl, HA, HJ17, HO_10, HB⟩ := hcut
           cases kq with
           | zero => exact absurd HA.out (by simp [caulkerlaw04_DiffAny.j1])
           | succ kj17 =>
            have H := HA.out
            clear HA
            simp only [caulkerlaw04_DiffAny.j1] at H
            by_cases c24 : x58_17 = true
            ·subst c24
             have H1 : (if t329 = 2 then (if (t327.length : Int) = 0 then (some (!t328)) else (none)) else (none)) = some r := by rw [if_pos rfl] at H; exact H
             clear H
             have H := H1
             clear H1
             by_cases c25 : t329 = 2
             ·rw [if_pos c25] at H
              have c25b0 : (t329 == 2) = true := beq_iff_eq.mpr c25
              have c25b1 : (t329 != 2) = false := bne_eq_false_iff_eq.mpr c25
              clear c25
              by_cases c26 : (t327.length : Int) = 0
              ·rw [if_pos c26] at H
               have c26b0 : ((t327.length : Int) == 0) = true := beq_iff_eq.mpr c26
               have c26b1 : ((t327.length : Int) != 0) = false := bne_eq_false_iff_eq.mpr c26
               clear c26
               obtain rfl := Option.some.inj H
               obtain ⟨Ao27, co27, eo27⟩ := Kd.R_slice HO_10.out
               subst eo27
               go_wp2
               go_ret
               exact ⟨by first | rfl | (simp [errW_none, errW_some] <;> rfl) | (simp [*, errW_none, errW_some] <;> rfl), pxb HB⟩
              ·rw [if_neg c26] at H
               exact absurd H (by simp)
             ·rw [if_neg c25] at H
              exact absurd H (by simp)
            ·replace c24 := Bool.eq_false_iff.mpr c24
             subst c24
             have H1 : ((caulkerref03_Apply.f kj17 (a0 ++ (strOfNums y324)) t327).bind fun bt332 => (if t329 = 0 then (if bt332.2 = 0 then (if bt332.1.toList = ((a1 ++ (strOfNums y324)) ++ a1).toList then ((edit_Cost.f kj17 t327).bind fun t334 => (if t334 ≤ (wrap64 (((a0 ++ (strOfNums y324)).size : Int) + (((a1 ++ (strOfNums y324)) ++ a1).size : Int))) then (if t328 = true then ((edit_Cost.f kj17 t327).bind fun t335 => (some (decide (t335 ≤ 512)))) else (some true)) else (none))) else (none)) else (none)) else (none))) = some r := by rw [if_neg (show ¬ (false = true) by decide)] at H; exact H
             clear H
             have H := H1
             clear H1
             replace H := Option.bind_eq_some_iff.mp H
             obtain ⟨⟨t332, t333⟩, A280, H⟩ := H
             replace H : (if t329 = 0 then (if t333 = 0 then (if t332.toList = ((a1 ++ (strOfNums y324)) ++ a1).toList then ((edit_Cost.f kj17 t327).bind fun t334 => (if t334 ≤ (wrap64 (((a0 ++ (strOfNums y324)).size : Int) + (((a1 ++ (strOfNums y324)) ++ a1).size : Int))) then (if t328 = true then ((edit_Cost.f kj17 t327).bind fun t335 => (some (decide (t335 ≤ 512)))) else (some true)) else (none))) else (none)) else (none)) else (none)) = some r := H
             have A28 := Aside0.mk A280
             clear A280
             by_cases c29 : t329 = 0
             ·rw [if_pos c29] at H
              have c29b0 : (t329 == 0) = true := beq_iff_eq.mpr c29
              have c29b1 : (t329 != 0) = false := bne_eq_false_iff_eq.mpr c29
              clear c29
              by_cases c30 : t333 = 0
              ·rw [if_pos c30] at H
               have c30b0 : (t333 == 0) = true := beq_iff_eq.mpr c30
               have c30b1 : (t333 != 0) = false := bne_eq_false_iff_eq.mpr c30
               clear c30
               by_cases c31 : t332.toList = ((a1 ++ (strOfNums y324)) ++ a1).toList
               ·rw [if_pos c31] at H
                have c31b0 : (t332.toList == ((a1 ++ (strOfNums y324)) ++ a1).toList) = true := beq_iff_eq.mpr c31
                have c31b1 : (t332.toList != ((a1 ++ (strOfNums y324)) ++ a1).toList) = false := bne_eq_false_iff_eq.mpr c31
                clear c31
                replace H := Option.bind_eq_some_iff.mp H
                obtain ⟨t334, A320, H⟩ := H
                replace H : (if t334 ≤ (wrap64 (((a0 ++ (strOfNums y324)).size : Int) + (((a1 ++ (strOfNums y324)) ++ a1).size : Int))) then (if t328 = true then ((edit_Cost.f kj17 t327).bind fun t335 => (some (decide (t335 ≤ 512)))) else (some true)) else (none)) = some r := H
                have A32 := Aside0.mk A320
                clear A320
                by_cases c33 : t334 ≤ (wrap64 (((a0 ++ (strOfNums y324)).size : Int) + (((a1 ++ (strOfNums y324)) ++ a1).size : Int)))
                ·rw [if_pos c33] at H
                 have c33b0 : decide (t334 ≤ (wrap64 (((a0 ++ (strOfNums y324)).size : Int) + (((a1 ++ (strOfNums y324)) ++ a1).size : Int)))) = true := decide_eq_true c33
                 have c33b8 := c33b0
                 simp only [ByteArray.size_append, Int.natCast_add] at c33b8
                 have c33b7 := eq_true (of_decide_eq_true c33b8)
                 have c33b6 := eq_false (Int.not_lt.mpr (of_decide_eq_true c33b8))
                 clear c33
                 by_cases c34 : t328 = true
                 ·subst c34
                  have H1 : ((edit_Cost.f kj17 t327).bind fun t335 => (some (decide (t335 ≤ 512)))) = some r := by rw [if_pos rfl] at H; exact H
                  clear H
                  have H := H1
                  clear H1
                  replace H := Option.bind_eq_some_iff.mp H
                  obtain ⟨t335, A350, H⟩ := H
                  replace H : (some (decide (t335 ≤ 512))) = some r := H
                  have e_t335 : t335 = t334 := Option.some.inj (A350.symm.trans A32.out)
                  have A35 := Aside0.mk A350
                  clear A350
                  obtain rfl := Option.some.inj H
                  obtain ⟨Ao36, co36, eo36⟩ := Kd.R_slice HO_10.out
                  subst eo36
                  go_wp2_with (first | ((with_reducible refine gate_callee (f := 13) rfl ?_); refine goesL_ (some 73) rfl rfl Try.func13 (by kernel_rfl) rfl #[.string (a0 ++ (strOfNums y324)), .slice Ao36 t327.length co36] rfl (by (try simp only [List.map_toArray, List.map_cons, List.map_nil]); first | done | rfl | (simp only [List.length_drop, List.length_take]; rfl)) ?_; (with_reducible refine (caulkerref03_Apply.calls kj17 (a0 ++ (strOfNums y324)) _ _ t327 t332 t333 _ ?side1 ?side2 A28.out).mono ?_); (case side1 => repeat (first | exact (Kd.R_reads' HO_10.out).2.2 | (with_reducible refine Kd.C_alloc ?_ _) | (with_reducible refine Kd.C_drewN ?_ _) | (with_reducible refine Kd.C_drew ?_))); (case side2 => exact (Kd.R_reads' HO_10.out).2.1); rintro e w37 ⟨rfl, hb⟩; refine ⟨_, rfl, ?_⟩; have n0_ := Aside0.mk (Kd.R_below (pxr HO_10) hb); have n1_ := pxs HB hb; clear HO_10; clear HB; have HO_10 := n0_; have HB := n1_; clear n0_ n1_; (try clear hb); (try clear hb2); (try clear hk); (try clear hi)) | (go_at_call 16; (with_reducible refine (edit_Cost.calls kj17 _ _ t327 t334 _ ?side1 ?side2 A32.out).mono ?_); (case side1 => repeat (first | exact (Kd.R_reads' HO_10.out).2.2 | (with_reducible refine Kd.C_alloc ?_ _) | (with_reducible refine Kd.C_drewN ?_ _) | (with_reducible refine Kd.C_drew ?_))); (case side2 => exact (Kd.R_reads' HO_10.out).2.1); rintro e w38 ⟨rfl, hb⟩; have n0_ := Aside0.mk (Kd.R_below (pxr HO_10) hb); have n1_ := pxs HB hb; clear HO_10; clear HB; have HO_10 := n0_; have HB := n1_; clear n0_ n1_; (try clear hb); (try clear hb2); (try clear hk); (try clear hi)) | (go_at_call 16; (with_reducible refine (edit_Cost.calls kj17 _ _ t327 t335 _ ?side1 ?side2 A35.out).mono ?_); (case side1 => repeat (first | exact (Kd.R_reads' HO_10.out).2.2 | (with_reducible refine Kd.C_alloc ?_ _) | (with_reducible refine Kd.C_drewN ?_ _) | (with_reducible refine Kd.C_drew ?_))); (case side2 => exact (Kd.R_reads' HO_10.out).2.1); rintro e w39 ⟨rfl, hb⟩; have n0_ := Aside0.mk (Kd.R_below (pxr HO_10) hb); have n1_ := pxs HB hb; clear HO_10; clear HB; have HO_10 := n0_; have HB := n1_; clear n0_ n1_; (try clear hb); (try clear hb2); (try clear hk); (try clear hi)))
                  go_ret
                  exact ⟨by first | rfl | (simp [errW_none, errW_some] <;> rfl) | (simp [*, errW_none, errW_some] <;> rfl), pxb HB⟩
                 ·replace c34 := Bool.eq_false_iff.mpr c34
                  subst c34
                  have H1 : (some true) = some r := by rw [if_neg (show ¬ (false = true) by decide)] at H; exact H
                  clear H
                  have H := H1
                  clear H1
                  obtain rfl := Option.some.inj H
                  obtain ⟨Ao40, co40, eo40⟩ := Kd.R_slice HO_10.out
                  subst eo40
                  go_wp2_with (first | ((with_reducible refine gate_callee (f := 13) rfl ?_); refine goesL_ (some 73) rfl rfl Try.func13 (by kernel_rfl) rfl #[.string (a0 ++ (strOfNums y324)), .slice Ao40 t327.length co40] rfl (by (try simp only [List.map_toArray, List.map_cons, List.map_nil]); first | done | rfl | (simp only [List.length_drop, List.length_take]; rfl)) ?_; (with_reducible refine (caulkerref03_Apply.calls kj17 (a0 ++ (strOfNums y324)) _ _ t327 t332 t333 _ ?side1 ?side2 A28.out).mono ?_); (case side1 => repeat (first | exact (Kd.R_reads' HO_10.out).2.2 | (with_reducible refine Kd.C_alloc ?_ _) | (with_reducible refine Kd.C_drewN ?_ _) | (with_reducible refine Kd.C_drew ?_))); (case side2 => exact (Kd.R_reads' HO_10.out).2.1); rintro e w41 ⟨rfl, hb⟩; refine ⟨_, rfl, ?_⟩; have n0_ := Aside0.mk (Kd.R_below (pxr HO_10) hb); have n1_ := pxs HB hb; clear HO_10; clear HB; have HO_10 := n0_; have HB := n1_; clear n0_ n1_; (try clear hb); (try clear hb2); (try clear hk); (try clear hi)) | (go_at_call 16; (with_reducible refine (edit_Cost.calls kj17 _ _ t327 t334 _ ?side1 ?side2 A32.out).mono ?_); (case side1 => repeat (first | exact (Kd.R_reads' HO_10.out).2.2 | (with_reducible refine Kd.C_alloc ?_ _) | (with_reducible refine Kd.C_drewN ?_ _) | (with_reducible refine Kd.C_drew ?_))); (case side2 => exact (Kd.R_reads' HO_10.out).2.1); rintro e w42 ⟨rfl, hb⟩; have n0_ := Aside0.mk (Kd.R_below (pxr HO_10) hb); have n1_ := pxs HB hb; clear HO_10; clear HB; have HO_10 := n0_; have HB := n1_; clear n0_ n1_; (try clear hb); (try clear hb2); (try clear hk); (try clear hi)))
                  go_ret
                  exact ⟨by first | rfl | (simp [errW_none, errW_some] <;> rfl) | (simp [*, errW_none, errW_some] <;> rfl), pxb HB⟩
                ·rw [if_neg c33] at H
                 exact absurd H (by simp)
               ·rw [if_neg c31] at H
                exact absurd H (by simp)
              ·rw [if_neg c30] at H
               exact absurd H (by simp)
             ·rw [if_neg c29] at H
              exact absurd H (by simp)
         ·rw [if_neg c16] at H
          exact absurd H (by simp)
        ·rw [if_neg c15] at H
         exact absurd H (by simp)
       ·rw [if_neg c14] at H
        exact absurd H (by simp)
      ·rw [if_neg c13] at H
       exact absurd H (by simp)
     ·rw [if_neg c12] at H
      exact absurd H (by simp)
 ·replace c5 := Bool.eq_false_iff.mpr c5
  subst c5
  have H1 : (none) = some r := by rw [if_neg (show ¬ (false = true) by decide)] at H; exact H
  clear H
  have H := H1
  clear H1
  exact absurd H (by simp)

/-- THE ONE PURE STATEMENT of caulkerlaw04_DiffAny. -/
def caulkerlaw04_DiffAny.Pure : Prop := ∀ (a0 : ByteArray) (a1 : ByteArray) (a2 : Int), a0.size ≤ 140737488351232 → a1.size ≤ 140737488351232 → (Lit.int .i64 a2).wf = true → ∃ k, caulkerlaw04_DiffAny.f k a0 a1 a2 = some true

end Go.Proofs.Ytoljmjhmieaggaa.X
