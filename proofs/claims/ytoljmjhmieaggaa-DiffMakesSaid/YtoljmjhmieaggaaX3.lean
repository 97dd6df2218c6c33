/- What the program's functions answer, as Lean functions, and that each call does just that; no condition. Written by a program (px.py) out of the translation. -/
import Derived.Test.YtoljmjhmieaggaaX0
import Derived.Test.YtoljmjhmieaggaaX12
import Derived.Test.YtoljmjhmieaggaaX16
import Derived.Test.YtoljmjhmieaggaaX15
import Derived.Test.YtoljmjhmieaggaaX11
import Derived.Test.YtoljmjhmieaggaaX13
import Derived.Test.YtoljmjhmieaggaaX14
namespace Go.Proofs.Ytoljmjhmieaggaa.X
open Go.RowKit Go.Proofs.YtoljmjhmieaggaaW.PrintWords Go.Proofs.YtoljmjhmieaggaaW.PrintLast Go.Proofs.YtoljmjhmieaggaaW.PrintMore
attribute [local go_sem] max2_int min2_int max_two min_two max_three min_three max_four min_four   -- for this text's walks alone
set_option linter.unusedVariables false
set_option linter.unusedSimpArgs false

/-! ### caulkerlaw04_DiffMakes: function 3 -/
def caulkerlaw04_DiffMakes.j0 : Nat → ByteArray → ByteArray → Bool → Option (Bool)
 | 0, _, _, _ => none
 | k + 1, x0, x1, x30 => if x30 = true then (some true) else ((diff_Bytes.f k x0 x1).bind fun bt312 => ((caulkerref03_Apply.f k x0 bt312.1).bind fun bt317 => ((caulkerref04_Far.f k x0 x1).bind fun t319 => ((diff_Far.f k x0 x1).bind fun bt320 => (if bt312.2.2 = 0 then (if bt312.2.1 = true then (if bt317.2 = 0 then (if bt317.1.toList = x1.toList then ((edit_Cost.f k bt312.1).bind fun t322 => (if t322 = t319 then (if bt320.1 = t319 then (if bt320.2 = true then (some (((bt312.1.length : Int) == 0) == (x0.toList == x1.toList))) else (none)) else (none)) else (none))) else (none)) else (none)) else (none)) else (none))))))
def caulkerlaw04_DiffMakes.f (k : Nat) (a0 : ByteArray) (a1 : ByteArray) : Option (Bool) := (caulkerlaw04_finds.f k).bind fun t311 => (if t311 = true then (if (a0.size : Int) > 400 then (caulkerlaw04_DiffMakes.j0 k a0 a1 true) else (if (a1.size : Int) > 400 then (caulkerlaw04_DiffMakes.j0 k a0 a1 true) else (caulkerlaw04_DiffMakes.j0 k a0 a1 (decide ((wrap64 ((a0.size : Int) + (a1.size : Int))) > 512))))) else (none))
theorem caulkerlaw04_DiffMakes.mono_l : ∀ k, (∀ y0 y1 y2, LeO (caulkerlaw04_DiffMakes.j0 k y0 y1 y2) (caulkerlaw04_DiffMakes.j0 (k + 1) y0 y1 y2))
 | 0 => fun _ _ _ r h => by simp [caulkerlaw04_DiffMakes.j0] at h
 | k + 1 => by
  have ih0 := caulkerlaw04_DiffMakes.mono_l k
  ·intro y0 y1 y2
   unfold caulkerlaw04_DiffMakes.j0
   repeat' first
   | (with_reducible exact ih0 _ _ _)
   | (with_reducible exact caulkerlaw04_finds.mono _)
   | (with_reducible exact caulkerref03_Apply.mono _ _ _)
   | (with_reducible exact caulkerref04_Far.mono _ _ _)
   | (with_reducible exact diff_Bytes.mono _ _ _)
   | (with_reducible exact diff_Far.mono _ _ _)
   | (with_reducible exact edit_Cost.mono _ _)
   | (with_reducible exact LeO.refl _)
   | (with_reducible exact LeO.none _)
   | (with_reducible refine LeO.ite ?_ ?_)
   | (with_reducible refine LeO.bind ?_ (fun _ => ?_))
   | exact ih0 _ _ _
   | exact caulkerlaw04_finds.mono _
   | exact caulkerref03_Apply.mono _ _ _
   | exact caulkerref04_Far.mono _ _ _
   | exact diff_Bytes.mono _ _ _
   | exact diff_Far.mono _ _ _
   | exact edit_Cost.mono _ _
   | exact LeO.none _
   | refine LeO.ite ?_ ?_
   | refine LeO.bind ?_ (fun _ => ?_)
theorem caulkerlaw04_DiffMakes.mono : ∀ a0 a1 k, LeO (caulkerlaw04_DiffMakes.f k a0 a1) (caulkerlaw04_DiffMakes.f (k + 1) a0 a1) := by
 intro a0 a1 k
 have ih0 := caulkerlaw04_DiffMakes.mono_l k
 unfold caulkerlaw04_DiffMakes.f
 repeat' first
   | (with_reducible exact ih0 _ _ _)
   | (with_reducible exact caulkerlaw04_finds.mono _)
   | (with_reducible exact caulkerref03_Apply.mono _ _ _)
   | (with_reducible exact caulkerref04_Far.mono _ _ _)
   | (with_reducible exact diff_Bytes.mono _ _ _)
   | (with_reducible exact diff_Far.mono _ _ _)
   | (with_reducible exact edit_Cost.mono _ _)
   | (with_reducible exact LeO.refl _)
   | (with_reducible exact LeO.none _)
   | (with_reducible refine LeO.ite ?_ ?_)
   | (with_reducible refine LeO.bind ?_ (fun _ => ?_))
   | exact ih0 _ _ _
   | exact caulkerlaw04_finds.mono _
   | exact caulkerref03_Apply.mono _ _ _
   | exact caulkerref04_Far.mono _ _ _
   | exact diff_Bytes.mono _ _ _
   | exact diff_Far.mono _ _ _
   | exact edit_Cost.mono _ _
   | exact LeO.none _
   | refine LeO.ite ?_ ?_
   | refine LeO.bind ?_ (fun _ => ?_)
set_option maxHeartbeats 8000000 in
set_option maxRecDepth 100000 in
theorem caulkerlaw04_DiffMakes.calls (k : Nat) (a0 : ByteArray) (a1 : ByteArray) (r : Bool) (w : World) (h : caulkerlaw04_DiffMakes.f k a0 a1 = some r) :
  Calls Try.prog 3 #[.string a0, .string a1] w fun e w' => e = .returned (.bool r) ∧ Below w.heap.size w w' := by
 have HB := Aside0.mk (Below.refl w.heap.size w)
 have H : ((caulkerlaw04_finds.f k).bind fun t311 => (if t311 = true then (if (a0.size : Int) > 400 then (caulkerlaw04_DiffMakes.j0 k a0 a1 true) else (if (a1.size : Int) > 400 then (caulkerlaw04_DiffMakes.j0 k a0 a1 true) else (caulkerlaw04_DiffMakes.j0 k a0 a1 (decide ((wrap64 ((a0.size : Int) + (a1.size : Int))) > 512))))) else (none))) = some r := h
 clear h
 replace H := Option.bind_eq_some_iff.mp H
 obtain ⟨t311, A30, H⟩ := H
 replace H : (if t311 = true then (if (a0.size : Int) > 400 then (caulkerlaw04_DiffMakes.j0 k a0 a1 true) else (if (a1.size : Int) > 400 then (caulkerlaw04_DiffMakes.j0 k a0 a1 true) else (caulkerlaw04_DiffMakes.j0 k a0 a1 (decide ((wrap64 ((a0.size : Int) + (a1.size : Int))) > 512))))) else (none)) = some r := H
 have A3 := Aside0.mk A30
 clear A30
 by_cases c4 : t311 = true
 ·subst c4
  have H1 : (if (a0.size : Int) > 400 then (caulkerlaw04_DiffMakes.j0 k a0 a1 true) else (if (a1.size : Int) > 400 then (caulkerlaw04_DiffMakes.j0 k a0 a1 true) else (caulkerlaw04_DiffMakes.j0 k a0 a1 (decide ((wrap64 ((a0.size : Int) + (a1.size : Int))) > 512))))) = some r := by rw [if_pos rfl] at H; exact H
  clear H
  have H := H1
  clear H1
  have HC5 := Aside0.mk H
  clear H
  go_enter Try.func3, Try.ntmps3
  go_upto_region 3 with (first | ((with_reducible refine gate_callee (f := 11) rfl ?_); refine goesL_ (some 13) rfl rfl Try.func11 (by kernel_rfl) rfl #[] rfl (by (try simp only [List.map_toArray, List.map_cons, List.map_nil]); first | done | rfl | (simp only [List.length_drop, List.length_take]; rfl)) ?_; (with_reducible refine (caulkerlaw04_finds.calls k  true _ A3.out).mono ?_); rintro e w6 ⟨rfl, hb⟩; refine ⟨_, rfl, ?_⟩; have n0_ := pxs HB hb; clear HB; have HB := n0_; clear n0_; (try clear hb); (try clear hb2); (try clear hk); (try clear hi)))
  (try simp only [Act.put, List.setIfInBounds_toArray, List.set_cons_zero, List.set_cons_succ])
  go_cut [30] (fun v30 wc => ∃ (kq : Nat) (x30_4 : Bool), v30 = .bool x30_4 ∧ Aside0 (caulkerlaw04_DiffMakes.j0 kq a0 a1 x30_4 = some r) ∧ Aside0 (kq ≤ k) ∧ Aside0 (Below w.heap.size w wc))
  case first =>
   have H := HC5.out
   clear HC5
   by_cases c7 : (a0.size : Int) > 400
   ·rw [if_pos c7] at H
    have c7b0 : decide (400 < (a0.size : Int)) = true := decide_eq_true c7
    have c7b1 : decide (400 < a0.size) = true := decide_eq_true (by omega)
    clear c7
    (first | rw [c7b0] | (simp only [i64_w, i32_w]; rw [c7b0]) | skip)
    have H' := Aside0.mk H
    clear H
    go_wp2
    go_meet
    case rel => exact ⟨_, (true), (by first | rfl | (simp; done) | (simp [*]; done)), H', ⟨by first | omega | exact Nat.le_refl _⟩, ⟨pxb HB⟩⟩
   ·rw [if_neg c7] at H
    have c7b0 : decide (400 < (a0.size : Int)) = false := decide_eq_false c7
    have c7b1 : decide (400 < a0.size) = false := decide_eq_false (by omega)
    clear c7
    (first | rw [c7b0] | (simp only [i64_w, i32_w]; rw [c7b0]) | skip)
    by_cases c8 : (a1.size : Int) > 400
    ·rw [if_pos c8] at H
     have c8b0 : decide (400 < (a1.size : Int)) = true := decide_eq_true c8
     have c8b1 : decide (400 < a1.size) = true := decide_eq_true (by omega)
     clear c8
     have H' := Aside0.mk H
     clear H
     go_wp2
     go_meet
     case rel => exact ⟨_, (true), (by first | rfl | (simp; done) | (simp [*]; done)), H', ⟨by first | omega | exact Nat.le_refl _⟩, ⟨pxb HB⟩⟩
    ·rw [if_neg c8] at H
     have c8b0 : decide (400 < (a1.size : Int)) = false := decide_eq_false c8
     have c8b1 : decide (400 < a1.size) = false := decide_eq_false (by omega)
     clear c8
     have H' := Aside0.mk H
     clear H
     go_wp2
     go_meet
     case rel => exact ⟨_, (decide ((wrap64 ((a0.size : Int) + (a1.size : Int))) > 512)), (by first | rfl | (simp; done) | (simp [*]; done)), H', ⟨by first | omega | exact Nat.le_refl _⟩, ⟨pxb HB⟩⟩
  case rest =>
   clear HC5
   try clear c1
   try clear p2
   try clear c3
   try clear c4
   try clear p6
   try clear c7
   try clear c7b0
   try clear c7b1
   try clear c8
   try clear c8b0
   try clear c8b1
   obtain ⟨kq, x30_4, rfl, HA, HJ4, HB⟩ := hcut
   cases kq with
   | zero => exact absurd HA.out (by simp [caulkerlaw04_DiffMakes.j0])
   | succ kj4 =>
    have H := HA.out
    clear HA
    simp only [caulkerlaw04_DiffMakes.j0] at H
    by_cases c9 : x30_4 = true
    ·subst c9
     have H1 : (some true) = some r := by rw [if_pos rfl] at H; exact H
     clear H
     have H := H1
     clear H1
     obtain rfl := Option.some.inj H
     go_wp2
     go_ret
     exact ⟨by first | rfl | (simp [errW_none, errW_some] <;> rfl) | (simp [*, errW_none, errW_some] <;> rfl), pxb HB⟩
    ·replace c9 := Bool.eq_false_iff.mpr c9
     subst c9
     have H1 : ((diff_Bytes.f kj4 a0 a1).bind fun bt312 => ((caulkerref03_Apply.f kj4 a0 bt312.1).bind fun bt317 => ((caulkerref04_Far.f kj4 a0 a1).bind fun t319 => ((diff_Far.f kj4 a0 a1).bind fun bt320 => (if bt312.2.2 = 0 then (if bt312.2.1 = true then (if bt317.2 = 0 then (if bt317.1.toList = a1.toList then ((edit_Cost.f kj4 bt312.1).bind fun t322 => (if t322 = t319 then (if bt320.1 = t319 then (if bt320.2 = true then (some (((bt312.1.length : Int) == 0) == (a0.toList == a1.toList))) else (none)) else (none)) else (none))) else (none)) else (none)) else (none)) else (none)))))) = some r := by rw [if_neg (show ¬ (false = true) by decide)] at H; exact H
     clear H
     have H := H1
     clear H1
     replace H := Option.bind_eq_some_iff.mp H
     obtain ⟨⟨t312, t313, t314⟩, A100, H⟩ := H
     replace H : ((caulkerref03_Apply.f kj4 a0 t312).bind fun bt317 => ((caulkerref04_Far.f kj4 a0 a1).bind fun t319 => ((diff_Far.f kj4 a0 a1).bind fun bt320 => (if t314 = 0 then (if t313 = true then (if bt317.2 = 0 then (if bt317.1.toList = a1.toList then ((edit_Cost.f kj4 t312).bind fun t322 => (if t322 = t319 then (if bt320.1 = t319 then (if bt320.2 = true then (some (((t312.length : Int) == 0) == (a0.toList == a1.toList))) else (none)) else (none)) else (none))) else (none)) else (none)) else (none)) else (none))))) = some r := H
     have A10 := Aside0.mk A100
     clear A100
     replace H := Option.bind_eq_some_iff.mp H
     obtain ⟨⟨t317, t318⟩, A110, H⟩ := H
     replace H : ((caulkerref04_Far.f kj4 a0 a1).bind fun t319 => ((diff_Far.f kj4 a0 a1).bind fun bt320 => (if t314 = 0 then (if t313 = true then (if t318 = 0 then (if t317.toList = a1.toList then ((edit_Cost.f kj4 t312).bind fun t322 => (if t322 = t319 then (if bt320.1 = t319 then (if bt320.2 = true then (some (((t312.length : Int) == 0) == (a0.toList == a1.toList))) else (none)) else (none)) else (none))) else (none)) else (none)) else (none)) else (none)))) = some r := H
     have A11 := Aside0.mk A110
     clear A110
     replace H := Option.bind_eq_some_iff.mp H
     obtain ⟨t319, A120, H⟩ := H
     replace H : ((diff_Far.f kj4 a0 a1).bind fun bt320 => (if t314 = 0 then (if t313 = true then (if t318 = 0 then (if t317.toList = a1.toList then ((edit_Cost.f kj4 t312).bind fun t322 => (if t322 = t319 then (if bt320.1 = t319 then (if bt320.2 = true then (some (((t312.length : Int) == 0) == (a0.toList == a1.toList))) else (none)) else (none)) else (none))) else (none)) else (none)) else (none)) else (none))) = some r := H
     have A12 := Aside0.mk A120
     clear A120
     replace H := Option.bind_eq_some_iff.mp H
     obtain ⟨⟨t320, t321⟩, A130, H⟩ := H
     replace H : (if t314 = 0 then (if t313 = true then (if t318 = 0 then (if t317.toList = a1.toList then ((edit_Cost.f kj4 t312).bind fun t322 => (if t322 = t319 then (if t320 = t319 then (if t321 = true then (some (((t312.length : Int) == 0) == (a0.toList == a1.toList))) else (none)) else (none)) else (none))) else (none)) else (none)) else (none)) else (none)) = some r := H
     have A13 := Aside0.mk A130
     clear A130
     by_cases c14 : t314 = 0
     ·rw [if_pos c14] at H
      have c14b0 : (t314 == 0) = true := beq_iff_eq.mpr c14
      have c14b1 : (t314 != 0) = false := bne_eq_false_iff_eq.mpr c14
      clear c14
      by_cases c15 : t313 = true
      ·subst c15
       have H1 : (if t318 = 0 then (if t317.toList = a1.toList then ((edit_Cost.f kj4 t312).bind fun t322 => (if t322 = t319 then (if t320 = t319 then (if t321 = true then (some (((t312.length : Int) == 0) == (a0.toList == a1.toList))) else (none)) else (none)) else (none))) else (none)) else (none)) = some r := by rw [if_pos rfl] at H; exact H
       clear H
       have H := H1
       clear H1
       by_cases c16 : t318 = 0
       ·rw [if_pos c16] at H
        have c16b0 : (t318 == 0) = true := beq_iff_eq.mpr c16
        have c16b1 : (t318 != 0) = false := bne_eq_false_iff_eq.mpr c16
        clear c16
        by_cases c17 : t317.toList = a1.toList
        ·rw [if_pos c17] at H
         have c17b0 : (t317.toList == a1.toList) = true := beq_iff_eq.mpr c17
         have c17b1 : (t317.toList != a1.toList) = false := bne_eq_false_iff_eq.mpr c17
         clear c17
         replace H := Option.bind_eq_some_iff.mp H
         obtain ⟨t322, A180, H⟩ := H
         replace H : (if t322 = t319 then (if t320 = t319 then (if t321 = true then (some (((t312.length : Int) == 0) == (a0.toList == a1.toList))) else (none)) else (none)) else (none)) = some r := H
         have A18 := Aside0.mk A180
         clear A180
         by_cases c19 : t322 = t319
         ·rw [if_pos c19] at H
          have c19b0 : (t322 == t319) = true := beq_iff_eq.mpr c19
          have c19b1 : (t322 != t319) = false := bne_eq_false_iff_eq.mpr c19
          clear c19
          by_cases c20 : t320 = t319
          ·rw [if_pos c20] at H
           have c20b0 : (t320 == t319) = true := beq_iff_eq.mpr c20
           have c20b1 : (t320 != t319) = false := bne_eq_false_iff_eq.mpr c20
           clear c20
           by_cases c21 : t321 = true
           ·subst c21
            have H1 : (some (((t312.length : Int) == 0) == (a0.toList == a1.toList))) = some r := by rw [if_pos rfl] at H; exact H
            clear H
            have H := H1
            clear H1
            obtain rfl := Option.some.inj H
            go_wp2_with (first | ((with_reducible refine gate_callee (f := 12) rfl ?_); refine goesL_ (some 34) rfl rfl Try.func12 (by kernel_rfl) rfl #[.string a0, .string a1] rfl (by (try simp only [List.map_toArray, List.map_cons, List.map_nil]); first | done | rfl | (simp only [List.length_drop, List.length_take]; rfl)) ?_; (with_reducible refine (diff_Bytes.calls kj4 a0 a1 t312 true t314 _ A10.out).mono ?_); rintro e w22 ⟨v315, rfl, ho0, hb⟩; refine ⟨_, rfl, ?_⟩; have n0_ := Aside0.mk (Kd.R_lower ho0 (below_size (pxb HB))); have n1_ := pxs HB hb; clear HB; have HO316 := n0_; have HB := n1_; clear n0_ n1_; (try clear hb); (try clear hb2); (try clear hk); (try clear hi); (try clear ho0); obtain ⟨Ao23, co23, eo23⟩ := Kd.R_slice HO316.out; subst eo23) | ((with_reducible refine gate_callee (f := 13) rfl ?_); refine goesL_ (some 41) rfl rfl Try.func13 (by kernel_rfl) rfl #[.string a0, .slice Ao23 t312.length co23] rfl (by (try simp only [List.map_toArray, List.map_cons, List.map_nil]); first | done | rfl | (simp only [List.length_drop, List.length_take]; rfl)) ?_; (with_reducible refine (caulkerref03_Apply.calls kj4 a0 _ _ t312 t317 t318 _ ?side1 ?side2 A11.out).mono ?_); (case side1 => repeat (first | exact (Kd.R_reads' HO316.out).2.2 | (with_reducible refine Kd.C_alloc ?_ _) | (with_reducible refine Kd.C_drewN ?_ _) | (with_reducible refine Kd.C_drew ?_))); (case side2 => exact (Kd.R_reads' HO316.out).2.1); rintro e w24 ⟨rfl, hb⟩; refine ⟨_, rfl, ?_⟩; have n0_ := Aside0.mk (Kd.R_below (pxr HO316) hb); have n1_ := pxs HB hb; clear HO316; clear HB; have HO316 := n0_; have HB := n1_; clear n0_ n1_; (try clear hb); (try clear hb2); (try clear hk); (try clear hi)) | ((with_reducible refine gate_callee (f := 14) rfl ?_); refine goesL_ (some 46) rfl rfl Try.func14 (by kernel_rfl) rfl #[.string a0, .string a1] rfl (by (try simp only [List.map_toArray, List.map_cons, List.map_nil]); first | done | rfl | (simp only [List.length_drop, List.length_take]; rfl)) ?_; (with_reducible refine (caulkerref04_Far.calls kj4 a0 a1 t319 _ A12.out).mono ?_); rintro e w25 ⟨rfl, hb⟩; refine ⟨_, rfl, ?_⟩; have n0_ := Aside0.mk (Kd.R_below (pxr HO316) hb); have n1_ := pxs HB hb; clear HO316; clear HB; have HO316 := n0_; have HB := n1_; clear n0_ n1_; (try clear hb); (try clear hb2); (try clear hk); (try clear hi)) | ((with_reducible refine gate_callee (f := 15) rfl ?_); refine goesL_ (some 50) rfl rfl Try.func15 (by kernel_rfl) rfl #[.string a0, .string a1] rfl (by (try simp only [List.map_toArray, List.map_cons, List.map_nil]); first | done | rfl | (simp only [List.length_drop, List.length_take]; rfl)) ?_; (with_reducible refine (diff_Far.calls kj4 a0 a1 t320 true _ A13.out).mono ?_); rintro e w26 ⟨rfl, hb⟩; refine ⟨_, rfl, ?_⟩; have n0_ := Aside0.mk (Kd.R_below (pxr HO316) hb); have n1_ := pxs HB hb; clear HO316; clear HB; have HO316 := n0_; have HB := n1_; clear n0_ n1_; (try clear hb); (try clear hb2); (try clear hk); (try clear hi)) | (go_at_call 16; (with_reducible refine (edit_Cost.calls kj4 _ _ t312 t322 _ ?side1 ?side2 A18.out).mono ?_); (case side1 => repeat (first | exact (Kd.R_reads' HO316.out).2.2 | (with_reducible refine Kd.C_alloc ?_ _) | (with_reducible refine Kd.C_drewN ?_ _) | (with_reducible refine Kd.C_drew ?_))); (case side2 => exact (Kd.R_reads' HO316.out).2.1); rintro e w27 ⟨rfl, hb⟩; have n0_ := Aside0.mk (Kd.R_below (pxr HO316) hb); have n1_ := pxs HB hb; clear HO316; clear HB; have HO316 := n0_; have HB := n1_; clear n0_ n1_; (try clear hb); (try clear hb2); (try clear hk); (try clear hi)))
            go_ret
            exact ⟨by first | rfl | (simp [errW_none, errW_some] <;> rfl) | (simp [*, errW_none, errW_some] <;> rfl), pxb HB⟩
           ·replace c21 := Bool.eq_false_iff.mpr c21
            subst c21
            have H1 : (none) = some r := by rw [if_neg (show ¬ (false = true) by decide)] at H; exact H
            clear H
            have H := H1
            clear H1
            exact absurd H (by simp)
          ·rw [if_neg c20] at H
           exact absurd H (by simp)
         ·rw [if_neg c19] at H
          exact absurd H (by simp)
        ·rw [if_neg c17] at H
         exact absurd H (by simp)
       ·rw [if_neg c16] at H
        exact absurd H (by simp)
      ·replace c15 := Bool.eq_false_iff.mpr c15
       subst c15
       have H1 : (none) = some r := by rw [if_neg (show ¬ (false = true) by decide)] at H; exact H
       clear H
       have H := H1
       clear H1
       exact absurd H (by simp)
     ·rw [if_neg c14] at H
      exact absurd H (by simp)
 ·replace c4 := Bool.eq_false_iff.mpr c4
  subst c4
  have H1 : (none) = some r := by rw [if_neg (show ¬ (false = true) by decide)] at H; exact H
  clear H
  have H := H1
  clear H1
  exact absurd H (by simp)

/-- THE ONE PURE STATEMENT of caulkerlaw04_DiffMakes. -/
def caulkerlaw04_DiffMakes.Pure : Prop := ∀ (a0 : ByteArray) (a1 : ByteArray), a0.size ≤ 140737488351232 → a1.size ≤ 140737488351232 → ∃ k, caulkerlaw04_DiffMakes.f k a0 a1 = some true

end Go.Proofs.Ytoljmjhmieaggaa.X
