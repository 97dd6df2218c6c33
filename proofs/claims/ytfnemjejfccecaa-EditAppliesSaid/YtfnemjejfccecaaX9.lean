/- What the program's functions answer, as Lean functions, and that each call does just that; no condition. Written by a program (px.py) out of the translation. -/
import Derived.Test.YtfnemjejfccecaaX0
import Derived.Test.YtfnemjejfccecaaX33
import Derived.Test.YtfnemjejfccecaaX31
import Derived.Test.YtfnemjejfccecaaX29
import Derived.Test.YtfnemjejfccecaaX30
import Derived.Test.YtfnemjejfccecaaX34
import Derived.Test.YtfnemjejfccecaaX32
namespace Go.Proofs.Ytfnemjejfccecaa.X
open Go.RowKit Go.Proofs.YtfnemjejfccecaaW.PrintWords Go.Proofs.YtfnemjejfccecaaW.PrintLast Go.Proofs.YtfnemjejfccecaaW.PrintMore
attribute [local go_sem] max2_int min2_int max_two min_two max_three min_three max_four min_four   -- for this text's walks alone
set_option linter.unusedVariables false
set_option linter.unusedSimpArgs false

/-! ### caulkerlaw03_EditApplies: function 9 -/
def caulkerlaw03_EditApplies.f (k : Nat) (a0 : ByteArray) (l1 : List (S60)) : Option (Bool) := (caulkerlaw03_edits.f k).bind fun t337 => (if t337 = true then ((caulkerlaw03_small.f k a0 l1).bind fun t338 => (if t338 = true then ((edit_Apply.f k a0 l1).bind fun bt339 => ((caulkerref03_Apply.f k a0 l1).bind fun bt341 => (if bt339.1.toList = bt341.1.toList then (if bt339.2 = bt341.2 then ((edit_Check.f k (a0.size : Int) l1).bind fun t343 => ((caulkerref03_Check.f k (a0.size : Int) l1).bind fun t344 => (some (t343 == t344)))) else (some false)) else (some false)))) else (some true))) else (some false))
theorem caulkerlaw03_EditApplies.mono : ∀ a0 a1 k, LeO (caulkerlaw03_EditApplies.f k a0 a1) (caulkerlaw03_EditApplies.f (k + 1) a0 a1) := by
 intro a0 a1 k
 unfold caulkerlaw03_EditApplies.f
 repeat' first
   | (with_reducible exact caulkerlaw03_edits.mono _)
   | (with_reducible exact caulkerlaw03_small.mono _ _ _)
   | (with_reducible exact caulkerref03_Apply.mono _ _ _)
   | (with_reducible exact caulkerref03_Check.mono _ _ _)
   | (with_reducible exact edit_Apply.mono _ _ _)
   | (with_reducible exact edit_Check.mono _ _ _)
   | (with_reducible exact LeO.refl _)
   | (with_reducible exact LeO.none _)
   | (with_reducible refine LeO.ite ?_ ?_)
   | (with_reducible refine LeO.bind ?_ (fun _ => ?_))
   | exact caulkerlaw03_edits.mono _
   | exact caulkerlaw03_small.mono _ _ _
   | exact caulkerref03_Apply.mono _ _ _
   | exact caulkerref03_Check.mono _ _ _
   | exact edit_Apply.mono _ _ _
   | exact edit_Check.mono _ _ _
   | exact LeO.none _
   | refine LeO.ite ?_ ?_
   | refine LeO.bind ?_ (fun _ => ?_)
set_option maxHeartbeats 8000000 in
set_option maxRecDepth 100000 in
theorem caulkerlaw03_EditApplies.calls (k : Nat) (a0 : ByteArray) (A1 : Option Addr) (c1 : Nat) (l1 : List (S60)) (r : Bool) (w : World) (hr1 : Kd.C k60 w A1 l1.length l1) (hc1 : l1.length ≤ c1) (h : caulkerlaw03_EditApplies.f k a0 l1 = some r) :
  Calls Try.prog 9 #[.string a0, .slice A1 l1.length c1] w fun e w' => e = .returned (.bool r) ∧ Below w.heap.size w w' := by
 have HR1 := Aside0.mk hr1
 have HC1 := Aside0.mk hc1
 clear hr1 hc1
 have HB := Aside0.mk (Below.refl w.heap.size w)
 have H : ((caulkerlaw03_edits.f k).bind fun t337 => (if t337 = true then ((caulkerlaw03_small.f k a0 l1).bind fun t338 => (if t338 = true then ((edit_Apply.f k a0 l1).bind fun bt339 => ((caulkerref03_Apply.f k a0 l1).bind fun bt341 => (if bt339.1.toList = bt341.1.toList then (if bt339.2 = bt341.2 then ((edit_Check.f k (a0.size : Int) l1).bind fun t343 => ((caulkerref03_Check.f k (a0.size : Int) l1).bind fun t344 => (some (t343 == t344)))) else (some false)) else (some false)))) else (some true))) else (some false))) = some r := h
 clear h
 replace H := Option.bind_eq_some_iff.mp H
 obtain ⟨t337, A30, H⟩ := H
 replace H : (if t337 = true then ((caulkerlaw03_small.f k a0 l1).bind fun t338 => (if t338 = true then ((edit_Apply.f k a0 l1).bind fun bt339 => ((caulkerref03_Apply.f k a0 l1).bind fun bt341 => (if bt339.1.toList = bt341.1.toList then (if bt339.2 = bt341.2 then ((edit_Check.f k (a0.size : Int) l1).bind fun t343 => ((caulkerref03_Check.f k (a0.size : Int) l1).bind fun t344 => (some (t343 == t344)))) else (some false)) else (some false)))) else (some true))) else (some false)) = some r := H
 have A3 := Aside0.mk A30
 clear A30
 by_cases c4 : t337 = true
 ·subst c4
  have H1 : ((caulkerlaw03_small.f k a0 l1).bind fun t338 => (if t338 = true then ((edit_Apply.f k a0 l1).bind fun bt339 => ((caulkerref03_Apply.f k a0 l1).bind fun bt341 => (if bt339.1.toList = bt341.1.toList then (if bt339.2 = bt341.2 then ((edit_Check.f k (a0.size : Int) l1).bind fun t343 => ((caulkerref03_Check.f k (a0.size : Int) l1).bind fun t344 => (some (t343 == t344)))) else (some false)) else (some false)))) else (some true))) = some r := by rw [if_pos rfl] at H; exact H
  clear H
  have H := H1
  clear H1
  replace H := Option.bind_eq_some_iff.mp H
  obtain ⟨t338, A50, H⟩ := H
  replace H : (if t338 = true then ((edit_Apply.f k a0 l1).bind fun bt339 => ((caulkerref03_Apply.f k a0 l1).bind fun bt341 => (if bt339.1.toList = bt341.1.toList then (if bt339.2 = bt341.2 then ((edit_Check.f k (a0.size : Int) l1).bind fun t343 => ((caulkerref03_Check.f k (a0.size : Int) l1).bind fun t344 => (some (t343 == t344)))) else (some false)) else (some false)))) else (some true)) = some r := H
  have A5 := Aside0.mk A50
  clear A50
  by_cases c6 : t338 = true
  ·subst c6
   have H1 : ((edit_Apply.f k a0 l1).bind fun bt339 => ((caulkerref03_Apply.f k a0 l1).bind fun bt341 => (if bt339.1.toList = bt341.1.toList then (if bt339.2 = bt341.2 then ((edit_Check.f k (a0.size : Int) l1).bind fun t343 => ((caulkerref03_Check.f k (a0.size : Int) l1).bind fun t344 => (some (t343 == t344)))) else (some false)) else (some false)))) = some r := by rw [if_pos rfl] at H; exact H
   clear H
   have H := H1
   clear H1
   replace H := Option.bind_eq_some_iff.mp H
   obtain ⟨⟨t339, t340⟩, A70, H⟩ := H
   replace H : ((caulkerref03_Apply.f k a0 l1).bind fun bt341 => (if t339.toList = bt341.1.toList then (if t340 = bt341.2 then ((edit_Check.f k (a0.size : Int) l1).bind fun t343 => ((caulkerref03_Check.f k (a0.size : Int) l1).bind fun t344 => (some (t343 == t344)))) else (some false)) else (some false))) = some r := H
   have A7 := Aside0.mk A70
   clear A70
   replace H := Option.bind_eq_some_iff.mp H
   obtain ⟨⟨t341, t342⟩, A80, H⟩ := H
   replace H : (if t339.toList = t341.toList then (if t340 = t342 then ((edit_Check.f k (a0.size : Int) l1).bind fun t343 => ((caulkerref03_Check.f k (a0.size : Int) l1).bind fun t344 => (some (t343 == t344)))) else (some false)) else (some false)) = some r := H
   have A8 := Aside0.mk A80
   clear A80
   by_cases c9 : t339.toList = t341.toList
   ·rw [if_pos c9] at H
    have c9b0 : (t339.toList == t341.toList) = true := beq_iff_eq.mpr c9
    have c9b1 : (t339.toList != t341.toList) = false := bne_eq_false_iff_eq.mpr c9
    clear c9
    by_cases c10 : t340 = t342
    ·rw [if_pos c10] at H
     have c10b0 : (t340 == t342) = true := beq_iff_eq.mpr c10
     have c10b1 : (t340 != t342) = false := bne_eq_false_iff_eq.mpr c10
     clear c10
     replace H := Option.bind_eq_some_iff.mp H
     obtain ⟨t343, A110, H⟩ := H
     replace H : ((caulkerref03_Check.f k (a0.size : Int) l1).bind fun t344 => (some (t343 == t344))) = some r := H
     have A11 := Aside0.mk A110
     clear A110
     replace H := Option.bind_eq_some_iff.mp H
     obtain ⟨t344, A120, H⟩ := H
     replace H : (some (t343 == t344)) = some r := H
     have A12 := Aside0.mk A120
     clear A120
     obtain rfl := Option.some.inj H
     go_enter Try.func9, Try.ntmps9
     go_wp2_with (first | ((with_reducible refine gate_callee (f := 29) rfl ?_); refine goesL_ (some 9) rfl rfl Try.func29 (by kernel_rfl) rfl #[] rfl (by (try simp only [List.map_toArray, List.map_cons, List.map_nil]); first | done | rfl | (simp only [List.length_drop, List.length_take]; rfl)) ?_; (with_reducible refine (caulkerlaw03_edits.calls k  true _ A3.out).mono ?_); rintro e w13 ⟨rfl, hb⟩; refine ⟨_, rfl, ?_⟩; have n0_ := pxs HB hb; clear HB; have HB := n0_; clear n0_; (try clear hb); (try clear hb2); (try clear hk); (try clear hi)) | ((with_reducible refine gate_callee (f := 30) rfl ?_); refine goesL_ (some 13) rfl rfl Try.func30 (by kernel_rfl) rfl #[.string a0, .slice A1 l1.length c1] rfl (by (try simp only [List.map_toArray, List.map_cons, List.map_nil]); first | done | rfl | (simp only [List.length_drop, List.length_take]; rfl)) ?_; (with_reducible refine (caulkerlaw03_small.calls k a0 _ _ l1 true _ ?side1 ?side2 A5.out).mono ?_); (case side1 => exact pxc HR1 HB); (case side2 => exact HC1.out); rintro e w14 ⟨rfl, hb⟩; refine ⟨_, rfl, ?_⟩; have n0_ := pxs HB hb; clear HB; have HB := n0_; clear n0_; (try clear hb); (try clear hb2); (try clear hk); (try clear hi)) | ((with_reducible refine gate_callee (f := 31) rfl ?_); refine goesL_ (some 18) rfl rfl Try.func31 (by kernel_rfl) rfl #[.string a0, .slice A1 l1.length c1] rfl (by (try simp only [List.map_toArray, List.map_cons, List.map_nil]); first | done | rfl | (simp only [List.length_drop, List.length_take]; rfl)) ?_; (with_reducible refine (edit_Apply.calls k a0 _ _ l1 t339 t340 _ ?side1 ?side2 A7.out).mono ?_); (case side1 => exact pxc HR1 HB); (case side2 => exact HC1.out); rintro e w15 ⟨rfl, hb⟩; refine ⟨_, rfl, ?_⟩; have n0_ := pxs HB hb; clear HB; have HB := n0_; clear n0_; (try clear hb); (try clear hb2); (try clear hk); (try clear hi)) | ((with_reducible refine gate_callee (f := 32) rfl ?_); refine goesL_ (some 24) rfl rfl Try.func32 (by kernel_rfl) rfl #[.string a0, .slice A1 l1.length c1] rfl (by (try simp only [List.map_toArray, List.map_cons, List.map_nil]); first | done | rfl | (simp only [List.length_drop, List.length_take]; rfl)) ?_; (with_reducible refine (caulkerref03_Apply.calls k a0 _ _ l1 t341 t342 _ ?side1 ?side2 A8.out).mono ?_); (case side1 => exact pxc HR1 HB); (case side2 => exact HC1.out); rintro e w16 ⟨rfl, hb⟩; refine ⟨_, rfl, ?_⟩; have n0_ := pxs HB hb; clear HB; have HB := n0_; clear n0_; (try clear hb); (try clear hb2); (try clear hk); (try clear hi)) | (go_at_call 33; (with_reducible refine (edit_Check.calls k (a0.size : Int) _ _ l1 t343 _ ?side1 ?side2 A11.out).mono ?_); (case side1 => exact pxc HR1 HB); (case side2 => exact HC1.out); rintro e w17 ⟨rfl, hb⟩; have n0_ := pxs HB hb; clear HB; have HB := n0_; clear n0_; (try clear hb); (try clear hb2); (try clear hk); (try clear hi)) | (go_at_call 34; (with_reducible refine (caulkerref03_Check.calls k (a0.size : Int) _ _ l1 t344 _ ?side1 ?side2 A12.out).mono ?_); (case side1 => exact pxc HR1 HB); (case side2 => exact HC1.out); rintro e w18 ⟨rfl, hb⟩; have n0_ := pxs HB hb; clear HB; have HB := n0_; clear n0_; (try clear hb); (try clear hb2); (try clear hk); (try clear hi)))
     go_ret
     exact ⟨by first | rfl | (simp [errW_none, errW_some] <;> rfl) | (simp [*, errW_none, errW_some] <;> rfl), pxb HB⟩
    ·rw [if_neg c10] at H
     have c10b0 : (t340 == t342) = false := beq_eq_false_iff_ne.mpr c10
     have c10b1 : (t340 != t342) = true := bne_iff_ne.mpr c10
     obtain rfl := Option.some.inj H
     go_enter Try.func9, Try.ntmps9
     go_wp2_with (first | ((with_reducible refine gate_callee (f := 29) rfl ?_); refine goesL_ (some 9) rfl rfl Try.func29 (by kernel_rfl) rfl #[] rfl (by (try simp only [List.map_toArray, List.map_cons, List.map_nil]); first | done | rfl | (simp only [List.length_drop, List.length_take]; rfl)) ?_; (with_reducible refine (caulkerlaw03_edits.calls k  true _ A3.out).mono ?_); rintro e w19 ⟨rfl, hb⟩; refine ⟨_, rfl, ?_⟩; have n0_ := pxs HB hb; clear HB; have HB := n0_; clear n0_; (try clear hb); (try clear hb2); (try clear hk); (try clear hi)) | ((with_reducible refine gate_callee (f := 30) rfl ?_); refine goesL_ (some 13) rfl rfl Try.func30 (by kernel_rfl) rfl #[.string a0, .slice A1 l1.length c1] rfl (by (try simp only [List.map_toArray, List.map_cons, List.map_nil]); first | done | rfl | (simp only [List.length_drop, List.length_take]; rfl)) ?_; (with_reducible refine (caulkerlaw03_small.calls k a0 _ _ l1 true _ ?side1 ?side2 A5.out).mono ?_); (case side1 => exact pxc HR1 HB); (case side2 => exact HC1.out); rintro e w20 ⟨rfl, hb⟩; refine ⟨_, rfl, ?_⟩; have n0_ := pxs HB hb; clear HB; have HB := n0_; clear n0_; (try clear hb); (try clear hb2); (try clear hk); (try clear hi)) | ((with_reducible refine gate_callee (f := 31) rfl ?_); refine goesL_ (some 18) rfl rfl Try.func31 (by kernel_rfl) rfl #[.string a0, .slice A1 l1.length c1] rfl (by (try simp only [List.map_toArray, List.map_cons, List.map_nil]); first | done | rfl | (simp only [List.length_drop, List.length_take]; rfl)) ?_; (with_reducible refine (edit_Apply.calls k a0 _ _ l1 t339 t340 _ ?side1 ?side2 A7.out).mono ?_); (case side1 => exact pxc HR1 HB); (case side2 => exact HC1.out); rintro e w21 ⟨rfl, hb⟩; refine ⟨_, rfl, ?_⟩; have n0_ := pxs HB hb; clear HB; have HB := n0_; clear n0_; (try clear hb); (try clear hb2); (try clear hk); (try clear hi)) | ((with_reducible refine gate_callee (f := 32) rfl ?_); refine goesL_ (some 24) rfl rfl Try.func32 (by kernel_rfl) rfl #[.string a0, .slice A1 l1.length c1] rfl (by (try simp only [List.map_toArray, List.map_cons, List.map_nil]); first | done | rfl | (simp only [List.length_drop, List.length_take]; rfl)) ?_; (with_reducible refine (caulkerref03_Apply.calls k a0 _ _ l1 t341 t342 _ ?side1 ?side2 A8.out).mono ?_); (case side1 => exact pxc HR1 HB); (case side2 => exact HC1.out); rintro e w22 ⟨rfl, hb⟩; refine ⟨_, rfl, ?_⟩; have n0_ := pxs HB hb; clear HB; have HB := n0_; clear n0_; (try clear hb); (try clear hb2); (try clear hk); (try clear hi)))
     go_ret
     exact ⟨by first | rfl | (simp [errW_none, errW_some] <;> rfl) | (simp [*, errW_none, errW_some] <;> rfl), pxb HB⟩
   ·rw [if_neg c9] at H
    have c9b0 : (t339.toList == t341.toList) = false := beq_eq_false_iff_ne.mpr c9
    have c9b1 : (t339.toList != t341.toList) = true := bne_iff_ne.mpr c9
    obtain rfl := Option.some.inj H
    go_enter Try.func9, Try.ntmps9
    go_wp2_with (first | ((with_reducible refine gate_callee (f := 29) rfl ?_); refine goesL_ (some 9) rfl rfl Try.func29 (by kernel_rfl) rfl #[] rfl (by (try simp only [List.map_toArray, List.map_cons, List.map_nil]); first | done | rfl | (simp only [List.length_drop, List.length_take]; rfl)) ?_; (with_reducible refine (caulkerlaw03_edits.calls k  true _ A3.out).mono ?_); rintro e w23 ⟨rfl, hb⟩; refine ⟨_, rfl, ?_⟩; have n0_ := pxs HB hb; clear HB; have HB := n0_; clear n0_; (try clear hb); (try clear hb2); (try clear hk); (try clear hi)) | ((with_reducible refine gate_callee (f := 30) rfl ?_); refine goesL_ (some 13) rfl rfl Try.func30 (by kernel_rfl) rfl #[.string a0, .slice A1 l1.length c1] rfl (by (try simp only [List.map_toArray, List.map_cons, List.map_nil]); first | done | rfl | (simp only [List.length_drop, List.length_take]; rfl)) ?_; (with_reducible refine (caulkerlaw03_small.calls k a0 _ _ l1 true _ ?side1 ?side2 A5.out).mono ?_); (case side1 => exact pxc HR1 HB); (case side2 => exact HC1.out); rintro e w24 ⟨rfl, hb⟩; refine ⟨_, rfl, ?_⟩; have n0_ := pxs HB hb; clear HB; have HB := n0_; clear n0_; (try clear hb); (try clear hb2); (try clear hk); (try clear hi)) | ((with_reducible refine gate_callee (f := 31) rfl ?_); refine goesL_ (some 18) rfl rfl Try.func31 (by kernel_rfl) rfl #[.string a0, .slice A1 l1.length c1] rfl (by (try simp only [List.map_toArray, List.map_cons, List.map_nil]); first | done | rfl | (simp only [List.length_drop, List.length_take]; rfl)) ?_; (with_reducible refine (edit_Apply.calls k a0 _ _ l1 t339 t340 _ ?side1 ?side2 A7.out).mono ?_); (case side1 => exact pxc HR1 HB); (case side2 => exact HC1.out); rintro e w25 ⟨rfl, hb⟩; refine ⟨_, rfl, ?_⟩; have n0_ := pxs HB hb; clear HB; have HB := n0_; clear n0_; (try clear hb); (try clear hb2); (try clear hk); (try clear hi)) | ((with_reducible refine gate_callee (f := 32) rfl ?_); refine goesL_ (some 24) rfl rfl Try.func32 (by kernel_rfl) rfl #[.string a0, .slice A1 l1.length c1] rfl (by (try simp only [List.map_toArray, List.map_cons, List.map_nil]); first | done | rfl | (simp only [List.length_drop, List.length_take]; rfl)) ?_; (with_reducible refine (caulkerref03_Apply.calls k a0 _ _ l1 t341 t342 _ ?side1 ?side2 A8.out).mono ?_); (case side1 => exact pxc HR1 HB); (case side2 => exact HC1.out); rintro e w26 ⟨rfl, hb⟩; refine ⟨_, rfl, ?_⟩; have n0_ := pxs HB hb; clear HB; have HB := n0_; clear n0_; (try clear hb); (try clear hb2); (try clear hk); (try clear hi)))
    go_ret
    exact ⟨by first | rfl | (simp [errW_none, errW_some] <;> rfl) | (simp [*, errW_none, errW_some] <;> rfl), pxb HB⟩
  ·replace c6 := Bool.eq_false_iff.mpr c6
   subst c6
   have H1 : (some true) = some r := by rw [if_neg (show ¬ (false = true) by decide)] at H; exact H
   clear H
   have H := H1
   clear H1
   obtain rfl := Option.some.inj H
   go_enter Try.func9, Try.ntmps9
   go_wp2_with (first | ((with_reducible refine gate_callee (f := 29) rfl ?_); refine goesL_ (some 9) rfl rfl Try.func29 (by kernel_rfl) rfl #[] rfl (by (try simp only [List.map_toArray, List.map_cons, List.map_nil]); first | done | rfl | (simp only [List.length_drop, List.length_take]; rfl)) ?_; (with_reducible refine (caulkerlaw03_edits.calls k  true _ A3.out).mono ?_); rintro e w27 ⟨rfl, hb⟩; refine ⟨_, rfl, ?_⟩; have n0_ := pxs HB hb; clear HB; have HB := n0_; clear n0_; (try clear hb); (try clear hb2); (try clear hk); (try clear hi)) | ((with_reducible refine gate_callee (f := 30) rfl ?_); refine goesL_ (some 13) rfl rfl Try.func30 (by kernel_rfl) rfl #[.string a0, .slice A1 l1.length c1] rfl (by (try simp only [List.map_toArray, List.map_cons, List.map_nil]); first | done | rfl | (simp only [List.length_drop, List.length_take]; rfl)) ?_; (with_reducible refine (caulkerlaw03_small.calls k a0 _ _ l1 false _ ?side1 ?side2 A5.out).mono ?_); (case side1 => exact pxc HR1 HB); (case side2 => exact HC1.out); rintro e w28 ⟨rfl, hb⟩; refine ⟨_, rfl, ?_⟩; have n0_ := pxs HB hb; clear HB; have HB := n0_; clear n0_; (try clear hb); (try clear hb2); (try clear hk); (try clear hi)))
   go_ret
   exact ⟨by first | rfl | (simp [errW_none, errW_some] <;> rfl) | (simp [*, errW_none, errW_some] <;> rfl), pxb HB⟩
 ·replace c4 := Bool.eq_false_iff.mpr c4
  subst c4
  have H1 : (some false) = some r := by rw [if_neg (show ¬ (false = true) by decide)] at H; exact H
  clear H
  have H := H1
  clear H1
  obtain rfl := Option.some.inj H
  go_enter Try.func9, Try.ntmps9
  go_wp2_with (first | ((with_reducible refine gate_callee (f := 29) rfl ?_); refine goesL_ (some 9) rfl rfl Try.func29 (by kernel_rfl) rfl #[] rfl (by (try simp only [List.map_toArray, List.map_cons, List.map_nil]); first | done | rfl | (simp only [List.length_drop, List.length_take]; rfl)) ?_; (with_reducible refine (caulkerlaw03_edits.calls k  false _ A3.out).mono ?_); rintro e w29 ⟨rfl, hb⟩; refine ⟨_, rfl, ?_⟩; have n0_ := pxs HB hb; clear HB; have HB := n0_; clear n0_; (try clear hb); (try clear hb2); (try clear hk); (try clear hi)))
  go_ret
  exact ⟨by first | rfl | (simp [errW_none, errW_some] <;> rfl) | (simp [*, errW_none, errW_some] <;> rfl), pxb HB⟩

/-- THE ONE PURE STATEMENT of caulkerlaw03_EditApplies. -/
def caulkerlaw03_EditApplies.Pure : Prop := ∀ (a0 : ByteArray) (l1 : List (S60)), a0.size ≤ 140737488351232 → l1.length ≤ 9223372036854775807 → l1.length * 32 ≤ 140737488351232 → (∀ y ∈ l1, good60 y) → ∃ k, caulkerlaw03_EditApplies.f k a0 l1 = some true

end Go.Proofs.Ytfnemjejfccecaa.X
