/- What the program's functions answer, as Lean functions, and that each call does just that; no condition. Written by a program (px.py) out of the translation. -/
import Derived.Test.YtoljmjhmieaggaaX0
import Derived.Test.YtoljmjhmieaggaaX15
import Derived.Test.YtoljmjhmieaggaaX11
namespace Go.Proofs.Ytoljmjhmieaggaa.X
open Go.RowKit Go.Proofs.YtoljmjhmieaggaaW.PrintWords Go.Proofs.YtoljmjhmieaggaaW.PrintLast Go.Proofs.YtoljmjhmieaggaaW.PrintMore
attribute [local go_sem] max2_int min2_int max_two min_two max_three min_three max_four min_four   -- for this text's walks alone
set_option linter.unusedVariables false
set_option linter.unusedSimpArgs false

/-! ### caulkerlaw04_DiffTriangle: function 6 -/
def caulkerlaw04_DiffTriangle.j0 : Nat → ByteArray → ByteArray → ByteArray → Bool → Option (Bool)
 | 0, _, _, _, _ => none
 | k + 1, x0, x1, x2, x27 => if x27 = true then (some true) else ((diff_Far.f k x0 x1).bind fun bt342 => ((diff_Far.f k x1 x2).bind fun bt344 => ((diff_Far.f k x0 x2).bind fun bt346 => (if bt346.2 = true then (some (decide (bt346.1 ≤ (wrap64 (bt342.1 + bt344.1))))) else (none)))))
def caulkerlaw04_DiffTriangle.f (k : Nat) (a0 : ByteArray) (a1 : ByteArray) (a2 : ByteArray) : Option (Bool) := (caulkerlaw04_finds.f k).bind fun t341 => (if t341 = true then (if (a0.size : Int) > 120 then (caulkerlaw04_DiffTriangle.j0 k a0 a1 a2 true) else (if (a1.size : Int) > 120 then (caulkerlaw04_DiffTriangle.j0 k a0 a1 a2 true) else (caulkerlaw04_DiffTriangle.j0 k a0 a1 a2 (decide ((a2.size : Int) > 120))))) else (none))
theorem caulkerlaw04_DiffTriangle.mono_l : ∀ k, (∀ y0 y1 y2 y3, LeO (caulkerlaw04_DiffTriangle.j0 k y0 y1 y2 y3) (caulkerlaw04_DiffTriangle.j0 (k + 1) y0 y1 y2 y3))
 | 0 => fun _ _ _ _ r h => by simp [caulkerlaw04_DiffTriangle.j0] at h
 | k + 1 => by
  have ih0 := caulkerlaw04_DiffTriangle.mono_l k
  ·intro y0 y1 y2 y3
   unfold caulkerlaw04_DiffTriangle.j0
   repeat' first
   | (with_reducible exact ih0 _ _ _ _)
   | (with_reducible exact caulkerlaw04_finds.mono _)
   | (with_reducible exact diff_Far.mono _ _ _)
   | (with_reducible exact LeO.refl _)
   | (with_reducible exact LeO.none _)
   | (with_reducible refine LeO.ite ?_ ?_)
   | (with_reducible refine LeO.bind ?_ (fun _ => ?_))
   | exact ih0 _ _ _ _
   | exact caulkerlaw04_finds.mono _
   | exact diff_Far.mono _ _ _
   | exact LeO.none _
   | refine LeO.ite ?_ ?_
   | refine LeO.bind ?_ (fun _ => ?_)
theorem caulkerlaw04_DiffTriangle.mono : ∀ a0 a1 a2 k, LeO (caulkerlaw04_DiffTriangle.f k a0 a1 a2) (caulkerlaw04_DiffTriangle.f (k + 1) a0 a1 a2) := by
 intro a0 a1 a2 k
 have ih0 := caulkerlaw04_DiffTriangle.mono_l k
 unfold caulkerlaw04_DiffTriangle.f
 repeat' first
   | (with_reducible exact ih0 _ _ _ _)
   | (with_reducible exact caulkerlaw04_finds.mono _)
   | (with_reducible exact diff_Far.mono _ _ _)
   | (with_reducible exact LeO.refl _)
   | (with_reducible exact LeO.none _)
   | (with_reducible refine LeO.ite ?_ ?_)
   | (with_reducible refine LeO.bind ?_ (fun _ => ?_))
   | exact ih0 _ _ _ _
   | exact caulkerlaw04_finds.mono _
   | exact diff_Far.mono _ _ _
   | exact LeO.none _
   | refine LeO.ite ?_ ?_
   | refine LeO.bind ?_ (fun _ => ?_)
set_option maxHeartbeats 8000000 in
set_option maxRecDepth 100000 in
theorem caulkerlaw04_DiffTriangle.calls (k : Nat) (a0 : ByteArray) (a1 : ByteArray) (a2 : ByteArray) (r : Bool) (w : World) (h : caulkerlaw04_DiffTriangle.f k a0 a1 a2 = some r) :
  Calls Try.prog 6 #[.string a0, .string a1, .string a2] w fun e w' => e = .returned (.bool r) ∧ Below w.heap.size w w' := by
 have HB := Aside0.mk (Below.refl w.heap.size w)
 have H : ((caulkerlaw04_finds.f k).bind fun t341 => (if t341 = true then (if (a0.size : Int) > 120 then (caulkerlaw04_DiffTriangle.j0 k a0 a1 a2 true) else (if (a1.size : Int) > 120 then (caulkerlaw04_DiffTriangle.j0 k a0 a1 a2 true) else (caulkerlaw04_DiffTriangle.j0 k a0 a1 a2 (decide ((a2.size : Int) > 120))))) else (none))) = some r := h
 clear h
 replace H := Option.bind_eq_some_iff.mp H
 obtain ⟨t341, A40, H⟩ := H
 replace H : (if t341 = true then (if (a0.size : Int) > 120 then (caulkerlaw04_DiffTriangle.j0 k a0 a1 a2 true) else (if (a1.size : Int) > 120 then (caulkerlaw04_DiffTriangle.j0 k a0 a1 a2 true) else (caulkerlaw04_DiffTriangle.j0 k a0 a1 a2 (decide ((a2.size : Int) > 120))))) else (none)) = some r := H
 have A4 := Aside0.mk A40
 clear A40
 by_cases c5 : t341 = true
 ·subst c5
  have H1 : (if (a0.size : Int) > 120 then (caulkerlaw04_DiffTriangle.j0 k a0 a1 a2 true) else (if (a1.size : Int) > 120 then (caulkerlaw04_DiffTriangle.j0 k a0 a1 a2 true) else (caulkerlaw04_DiffTriangle.j0 k a0 a1 a2 (decide ((a2.size : Int) > 120))))) = some r := by rw [if_pos rfl] at H; exact H
  clear H
  have H := H1
  clear H1
  have HC6 := Aside0.mk H
  clear H
  go_enter Try.func6, Try.ntmps6
  go_upto_region 3 with (first | ((with_reducible refine gate_callee (f := 11) rfl ?_); refine goesL_ (some 13) rfl rfl Try.func11 (by kernel_rfl) rfl #[] rfl (by (try simp only [List.map_toArray, List.map_cons, List.map_nil]); first | done | rfl | (simp only [List.length_drop, List.length_take]; rfl)) ?_; (with_reducible refine (caulkerlaw04_finds.calls k  true _ A4.out).mono ?_); rintro e w7 ⟨rfl, hb⟩; refine ⟨_, rfl, ?_⟩; have n0_ := pxs HB hb; clear HB; have HB := n0_; clear n0_; (try clear hb); (try clear hb2); (try clear hk); (try clear hi)))
  (try simp only [Act.put, List.setIfInBounds_toArray, List.set_cons_zero, List.set_cons_succ])
  go_cut [27] (fun v27 wc => ∃ (kq : Nat) (x27_5 : Bool), v27 = .bool x27_5 ∧ Aside0 (caulkerlaw04_DiffTriangle.j0 kq a0 a1 a2 x27_5 = some r) ∧ Aside0 (kq ≤ k) ∧ Aside0 (Below w.heap.size w wc))
  case first =>
   have H := HC6.out
   clear HC6
   by_cases c8 : (a0.size : Int) > 120
   ·rw [if_pos c8] at H
    have c8b0 : decide (120 < (a0.size : Int)) = true := decide_eq_true c8
    have c8b1 : decide (120 < a0.size) = true := decide_eq_true (by omega)
    clear c8
    (first | rw [c8b0] | (simp only [i64_w, i32_w]; rw [c8b0]) | skip)
    have H' := Aside0.mk H
    clear H
    go_wp2
    go_meet
    case rel => exact ⟨_, (true), (by first | rfl | (simp; done) | (simp [*]; done)), H', ⟨by first | omega | exact Nat.le_refl _⟩, ⟨pxb HB⟩⟩
   ·rw [if_neg c8] at H
    have c8b0 : decide (120 < (a0.size : Int)) = false := decide_eq_false c8
    have c8b1 : decide (120 < a0.size) = false := decide_eq_false (by omega)
    clear c8
    (first | rw [c8b0] | (simp only [i64_w, i32_w]; rw [c8b0]) | skip)
    by_cases c9 : (a1.size : Int) > 120
    ·rw [if_pos c9] at H
     have c9b0 : decide (120 < (a1.size : Int)) = true := decide_eq_true c9
     have c9b1 : decide (120 < a1.size) = true := decide_eq_true (by omega)
     clear c9
     have H' := Aside0.mk H
     clear H
     go_wp2
     go_meet
     case rel => exact ⟨_, (true), (by first | rfl | (simp; done) | (simp [*]; done)), H', ⟨by first | omega | exact Nat.le_refl _⟩, ⟨pxb HB⟩⟩
    ·rw [if_neg c9] at H
     have c9b0 : decide (120 < (a1.size : Int)) = false := decide_eq_false c9
     have c9b1 : decide (120 < a1.size) = false := decide_eq_false (by omega)
     clear c9
     have H' := Aside0.mk H
     clear H
     go_wp2
     go_meet
     case rel => exact ⟨_, (decide ((a2.size : Int) > 120)), (by first | rfl | (simp; done) | (simp [*]; done)), H', ⟨by first | omega | exact Nat.le_refl _⟩, ⟨pxb HB⟩⟩
  case rest =>
   clear HC6
   try clear c1
   try clear p2
   try clear c5
   try clear c6
   try clear c8
   try clear c8b0
   try clear c8b1
   try clear c9
   try clear c9b0
   try clear c9b1
   obtain ⟨kq, x27_5, rfl, HA, HJ5, HB⟩ := hcut
   cases kq with
   | zero => exact absurd HA.out (by simp [caulkerlaw04_DiffTriangle.j0])
   | succ kj5 =>
    have H := HA.out
    clear HA
    simp only [caulkerlaw04_DiffTriangle.j0] at H
    by_cases c10 : x27_5 = true
    ·subst c10
     have H1 : (some true) = some r := by rw [if_pos rfl] at H; exact H
     clear H
     have H := H1
     clear H1
     obtain rfl := Option.some.inj H
     go_wp2
     go_ret
     exact ⟨by first | rfl | (simp [errW_none, errW_some] <;> rfl) | (simp [*, errW_none, errW_some] <;> rfl), pxb HB⟩
    ·replace c10 := Bool.eq_false_iff.mpr c10
     subst c10
     have H1 : ((diff_Far.f kj5 a0 a1).bind fun bt342 => ((diff_Far.f kj5 a1 a2).bind fun bt344 => ((diff_Far.f kj5 a0 a2).bind fun bt346 => (if bt346.2 = true then (some (decide (bt346.1 ≤ (wrap64 (bt342.1 + bt344.1))))) else (none))))) = some r := by rw [if_neg (show ¬ (false = true) by decide)] at H; exact H
     clear H
     have H := H1
     clear H1
     replace H := Option.bind_eq_some_iff.mp H
     obtain ⟨⟨t342, t343⟩, A110, H⟩ := H
     replace H : ((diff_Far.f kj5 a1 a2).bind fun bt344 => ((diff_Far.f kj5 a0 a2).bind fun bt346 => (if bt346.2 = true then (some (decide (bt346.1 ≤ (wrap64 (t342 + bt344.1))))) else (none)))) = some r := H
     have A11 := Aside0.mk A110
     clear A110
     replace H := Option.bind_eq_some_iff.mp H
     obtain ⟨⟨t344, t345⟩, A120, H⟩ := H
     replace H : ((diff_Far.f kj5 a0 a2).bind fun bt346 => (if bt346.2 = true then (some (decide (bt346.1 ≤ (wrap64 (t342 + t344))))) else (none))) = some r := H
     have A12 := Aside0.mk A120
     clear A120
     replace H := Option.bind_eq_some_iff.mp H
     obtain ⟨⟨t346, t347⟩, A130, H⟩ := H
     replace H : (if t347 = true then (some (decide (t346 ≤ (wrap64 (t342 + t344))))) else (none)) = some r := H
     have A13 := Aside0.mk A130
     clear A130
     by_cases c14 : t347 = true
     ·subst c14
      have H1 : (some (decide (t346 ≤ (wrap64 (t342 + t344))))) = some r := by rw [if_pos rfl] at H; exact H
      clear H
      have H := H1
      clear H1
      obtain rfl := Option.some.inj H
      go_wp2_with (first | ((with_reducible refine gate_callee (f := 15) rfl ?_); refine goesL_ (some 31) rfl rfl Try.func15 (by kernel_rfl) rfl #[.string a0, .string a1] rfl (by (try simp only [List.map_toArray, List.map_cons, List.map_nil]); first | done | rfl | (simp only [List.length_drop, List.length_take]; rfl)) ?_; (with_reducible refine (diff_Far.calls kj5 a0 a1 t342 t343 _ A11.out).mono ?_); rintro e w15 ⟨rfl, hb⟩; refine ⟨_, rfl, ?_⟩; have n0_ := pxs HB hb; clear HB; have HB := n0_; clear n0_; (try clear hb); (try clear hb2); (try clear hk); (try clear hi)) | ((with_reducible refine gate_callee (f := 15) rfl ?_); refine goesL_ (some 37) rfl rfl Try.func15 (by kernel_rfl) rfl #[.string a1, .string a2] rfl (by (try simp only [List.map_toArray, List.map_cons, List.map_nil]); first | done | rfl | (simp only [List.length_drop, List.length_take]; rfl)) ?_; (with_reducible refine (diff_Far.calls kj5 a1 a2 t344 t345 _ A12.out).mono ?_); rintro e w16 ⟨rfl, hb⟩; refine ⟨_, rfl, ?_⟩; have n0_ := pxs HB hb; clear HB; have HB := n0_; clear n0_; (try clear hb); (try clear hb2); (try clear hk); (try clear hi)) | ((with_reducible refine gate_callee (f := 15) rfl ?_); refine goesL_ (some 43) rfl rfl Try.func15 (by kernel_rfl) rfl #[.string a0, .string a2] rfl (by (try simp only [List.map_toArray, List.map_cons, List.map_nil]); first | done | rfl | (simp only [List.length_drop, List.length_take]; rfl)) ?_; (with_reducible refine (diff_Far.calls kj5 a0 a2 t346 true _ A13.out).mono ?_); rintro e w17 ⟨rfl, hb⟩; refine ⟨_, rfl, ?_⟩; have n0_ := pxs HB hb; clear HB; have HB := n0_; clear n0_; (try clear hb); (try clear hb2); (try clear hk); (try clear hi)))
      go_ret
      exact ⟨by first | rfl | (simp [errW_none, errW_some] <;> rfl) | (simp [*, errW_none, errW_some] <;> rfl), pxb HB⟩
     ·replace c14 := Bool.eq_false_iff.mpr c14
      subst c14
      have H1 : (none) = some r := by rw [if_neg (show ¬ (false = true) by decide)] at H; exact H
      clear H
      have H := H1
      clear H1
      exact absurd H (by simp)
 ·replace c5 := Bool.eq_false_iff.mpr c5
  subst c5
  have H1 : (none) = some r := by rw [if_neg (show ¬ (false = true) by decide)] at H; exact H
  clear H
  have H := H1
  clear H1
  exact absurd H (by simp)

/-- THE ONE PURE STATEMENT of caulkerlaw04_DiffTriangle. -/
def caulkerlaw04_DiffTriangle.Pure : Prop := ∀ (a0 : ByteArray) (a1 : ByteArray) (a2 : ByteArray), a0.size ≤ 140737488351232 → a1.size ≤ 140737488351232 → a2.size ≤ 140737488351232 → ∃ k, caulkerlaw04_DiffTriangle.f k a0 a1 a2 = some true

end Go.Proofs.Ytoljmjhmieaggaa.X
