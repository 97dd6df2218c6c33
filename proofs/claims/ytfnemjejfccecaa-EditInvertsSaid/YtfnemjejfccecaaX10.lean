/- What the program's functions answer, as Lean functions, and that each call does just that; no condition. Written by a program (px.py) out of the translation. -/
import Derived.Test.YtfnemjejfccecaaX0
import Derived.Test.YtfnemjejfccecaaXE60
import Derived.Test.YtfnemjejfccecaaX31
import Derived.Test.YtfnemjejfccecaaX35
import Derived.Test.YtfnemjejfccecaaX36
import Derived.Test.YtfnemjejfccecaaX29
import Derived.Test.YtfnemjejfccecaaX30
import Derived.Test.YtfnemjejfccecaaX32
namespace Go.Proofs.Ytfnemjejfccecaa.X
open Go.RowKit Go.Proofs.YtfnemjejfccecaaW.PrintWords Go.Proofs.YtfnemjejfccecaaW.PrintLast Go.Proofs.YtfnemjejfccecaaW.PrintMore
attribute [local go_sem] max2_int min2_int max_two min_two max_three min_three max_four min_four   -- for this text's walks alone
set_option linter.unusedVariables false
set_option linter.unusedSimpArgs false

attribute [local go_sem high] eqA60
/-! ### caulkerlaw03_EditInverts: function 10 -/
mutual
def caulkerlaw03_EditInverts.j0 : Nat → List (S60) → List (S60) → List (S60) → Bool → Option (Bool)
 | 0, _, _, _, _ => none
 | k + 1, x1, x7, x11, x71 => if x71 = true then (some false) else (caulkerlaw03_EditInverts.l0 k x1 x7 x11 (x11.length : Int) 0)
def caulkerlaw03_EditInverts.l0 : Nat → List (S60) → List (S60) → List (S60) → Int → Int → Option (Bool)
 | 0, _, _, _, _, _ => none
 | k + 1, x1, x7, x11, x73, x74 => if x74 < x73 then (if 0 ≤ x74 then (if x74 < (x11.length : Int) then (if x74 < (x1.length : Int) then (if ((!(((rd_T60 x11 x74).f0.f0) == ((rd_T60 x1 x74).f0.f0)) || (!(((rd_T60 x11 x74).f0.f1) == ((rd_T60 x1 x74).f0.f1)))) || (!((((rd_T60 x11 x74).f1).toList) == (((rd_T60 x1 x74).f1).toList)))) = true then (some false) else (caulkerlaw03_EditInverts.l0 k x1 x7 x11 x73 (wrap64 (x74 + 1)))) else (none)) else (none)) else (none)) else ((edit_Cost.f k x7).bind fun t361 => ((edit_Cost.f k x1).bind fun t362 => (some (t361 == t362))))
end
def caulkerlaw03_EditInverts.f (k : Nat) (a0 : ByteArray) (l1 : List (S60)) : Option (Bool) := (caulkerlaw03_edits.f k).bind fun t345 => (if t345 = true then ((caulkerlaw03_small.f k a0 l1).bind fun t346 => (if t346 = true then ((caulkerref03_Apply.f k a0 l1).bind fun bt347 => ((edit_Invert.f k a0 l1).bind fun bt349 => (if bt347.2 = 0 then ((edit_Apply.f k bt347.1 bt349.1).bind fun bt353 => ((edit_Invert.f k bt347.1 bt349.1).bind fun bt355 => (if (wrap64 ((wrap64 (bt349.2 + bt353.2)) + bt355.2)) = 0 then (if bt353.1.toList = a0.toList then (caulkerlaw03_EditInverts.j0 k l1 bt349.1 bt355.1 ((bt355.1.length : Int) != (l1.length : Int))) else (caulkerlaw03_EditInverts.j0 k l1 bt349.1 bt355.1 true)) else (caulkerlaw03_EditInverts.j0 k l1 bt349.1 bt355.1 true)))) else (if bt349.2 = bt347.2 then (some ((bt349.1.length : Int) == 0)) else (some false))))) else (some true))) else (some false))
theorem caulkerlaw03_EditInverts.mono_l : ∀ k, (∀ y0 y1 y2 y3, LeO (caulkerlaw03_EditInverts.j0 k y0 y1 y2 y3) (caulkerlaw03_EditInverts.j0 (k + 1) y0 y1 y2 y3)) ∧ (∀ y0 y1 y2 y3 y4, LeO (caulkerlaw03_EditInverts.l0 k y0 y1 y2 y3 y4) (caulkerlaw03_EditInverts.l0 (k + 1) y0 y1 y2 y3 y4))
 | 0 => ⟨fun _ _ _ _ r h => by simp [caulkerlaw03_EditInverts.j0] at h, fun _ _ _ _ _ r h => by simp [caulkerlaw03_EditInverts.l0] at h⟩
 | k + 1 => by
  obtain ⟨ih0, ih1⟩ := caulkerlaw03_EditInverts.mono_l k
  refine ⟨?_, ?_⟩
  ·intro y0 y1 y2 y3
   unfold caulkerlaw03_EditInverts.j0
   repeat' first
   | (with_reducible exact ih0 _ _ _ _)
   | (with_reducible exact ih1 _ _ _ _ _)
   | (with_reducible exact caulkerlaw03_edits.mono _)
   | (with_reducible exact caulkerlaw03_small.mono _ _ _)
   | (with_reducible exact caulkerref03_Apply.mono _ _ _)
   | (with_reducible exact edit_Apply.mono _ _ _)
   | (with_reducible exact edit_Cost.mono _ _)
   | (with_reducible exact edit_Invert.mono _ _ _)
   | (with_reducible exact LeO.refl _)
   | (with_reducible exact LeO.none _)
   | (with_reducible refine LeO.ite ?_ ?_)
   | (with_reducible refine LeO.bind ?_ (fun _ => ?_))
   | exact ih0 _ _ _ _
   | exact ih1 _ _ _ _ _
   | exact caulkerlaw03_edits.mono _
   | exact caulkerlaw03_small.mono _ _ _
   | exact caulkerref03_Apply.mono _ _ _
   | exact edit_Apply.mono _ _ _
   | exact edit_Cost.mono _ _
   | exact edit_Invert.mono _ _ _
   | exact LeO.none _
   | refine LeO.ite ?_ ?_
   | refine LeO.bind ?_ (fun _ => ?_)
  ·intro y0 y1 y2 y3 y4
   unfold caulkerlaw03_EditInverts.l0
   repeat' first
   | (with_reducible exact ih0 _ _ _ _)
   | (with_reducible exact ih1 _ _ _ _ _)
   | (with_reducible exact caulkerlaw03_edits.mono _)
   | (with_reducible exact caulkerlaw03_small.mono _ _ _)
   | (with_reducible exact caulkerref03_Apply.mono _ _ _)
   | (with_reducible exact edit_Apply.mono _ _ _)
   | (with_reducible exact edit_Cost.mono _ _)
   | (with_reducible exact edit_Invert.mono _ _ _)
   | (with_reducible exact LeO.refl _)
   | (with_reducible exact LeO.none _)
   | (with_reducible refine LeO.ite ?_ ?_)
   | (with_reducible refine LeO.bind ?_ (fun _ => ?_))
   | exact ih0 _ _ _ _
   | exact ih1 _ _ _ _ _
   | exact caulkerlaw03_edits.mono _
   | exact caulkerlaw03_small.mono _ _ _
   | exact caulkerref03_Apply.mono _ _ _
   | exact edit_Apply.mono _ _ _
   | exact edit_Cost.mono _ _
   | exact edit_Invert.mono _ _ _
   | exact LeO.none _
   | refine LeO.ite ?_ ?_
   | refine LeO.bind ?_ (fun _ => ?_)
theorem caulkerlaw03_EditInverts.mono : ∀ a0 a1 k, LeO (caulkerlaw03_EditInverts.f k a0 a1) (caulkerlaw03_EditInverts.f (k + 1) a0 a1) := by
 intro a0 a1 k
 obtain ⟨ih0, ih1⟩ := caulkerlaw03_EditInverts.mono_l k
 unfold caulkerlaw03_EditInverts.f
 repeat' first
   | (with_reducible exact ih0 _ _ _ _)
   | (with_reducible exact ih1 _ _ _ _ _)
   | (with_reducible exact caulkerlaw03_edits.mono _)
   | (with_reducible exact caulkerlaw03_small.mono _ _ _)
   | (with_reducible exact caulkerref03_Apply.mono _ _ _)
   | (with_reducible exact edit_Apply.mono _ _ _)
   | (with_reducible exact edit_Cost.mono _ _)
   | (with_reducible exact edit_Invert.mono _ _ _)
   | (with_reducible exact LeO.refl _)
   | (with_reducible exact LeO.none _)
   | (with_reducible refine LeO.ite ?_ ?_)
   | (with_reducible refine LeO.bind ?_ (fun _ => ?_))
   | exact ih0 _ _ _ _
   | exact ih1 _ _ _ _ _
   | exact caulkerlaw03_edits.mono _
   | exact caulkerlaw03_small.mono _ _ _
   | exact caulkerref03_Apply.mono _ _ _
   | exact edit_Apply.mono _ _ _
   | exact edit_Cost.mono _ _
   | exact edit_Invert.mono _ _ _
   | exact LeO.none _
   | refine LeO.ite ?_ ?_
   | refine LeO.bind ?_ (fun _ => ?_)
set_option maxHeartbeats 8000000 in
set_option maxRecDepth 100000 in
theorem caulkerlaw03_EditInverts.calls (k : Nat) (a0 : ByteArray) (A1 : Option Addr) (c1 : Nat) (l1 : List (S60)) (r : Bool) (w : World) (hr1 : Kd.C k60 w A1 l1.length l1) (hc1 : l1.length ≤ c1) (h : caulkerlaw03_EditInverts.f k a0 l1 = some r) :
  Calls Try.prog 10 #[.string a0, .slice A1 l1.length c1] w fun e w' => e = .returned (.bool r) ∧ Below w.heap.size w w' := by
 have hu60 := Try.underlying60
 have HR1 := Aside0.mk hr1
 have HC1 := Aside0.mk hc1
 clear hr1 hc1
 have HB := Aside0.mk (Below.refl w.heap.size w)
 have H : ((caulkerlaw03_edits.f k).bind fun t345 => (if t345 = true then ((caulkerlaw03_small.f k a0 l1).bind fun t346 => (if t346 = true then ((caulkerref03_Apply.f k a0 l1).bind fun bt347 => ((edit_Invert.f k a0 l1).bind fun bt349 => (if bt347.2 = 0 then ((edit_Apply.f k bt347.1 bt349.1).bind fun bt353 => ((edit_Invert.f k bt347.1 bt349.1).bind fun bt355 => (if (wrap64 ((wrap64 (bt349.2 + bt353.2)) + bt355.2)) = 0 then (if bt353.1.toList = a0.toList then (caulkerlaw03_EditInverts.j0 k l1 bt349.1 bt355.1 ((bt355.1.length : Int) != (l1.length : Int))) else (caulkerlaw03_EditInverts.j0 k l1 bt349.1 bt355.1 true)) else (caulkerlaw03_EditInverts.j0 k l1 bt349.1 bt355.1 true)))) else (if bt349.2 = bt347.2 then (some ((bt349.1.length : Int) == 0)) else (some false))))) else (some true))) else (some false))) = some r := h
 clear h
 replace H := Option.bind_eq_some_iff.mp H
 obtain ⟨t345, A30, H⟩ := H
 replace H : (if t345 = true then ((caulkerlaw03_small.f k a0 l1).bind fun t346 => (if t346 = true then ((caulkerref03_Apply.f k a0 l1).bind fun bt347 => ((edit_Invert.f k a0 l1).bind fun bt349 => (if bt347.2 = 0 then ((edit_Apply.f k bt347.1 bt349.1).bind fun bt353 => ((edit_Invert.f k bt347.1 bt349.1).bind fun bt355 => (if (wrap64 ((wrap64 (bt349.2 + bt353.2)) + bt355.2)) = 0 then (if bt353.1.toList = a0.toList then (caulkerlaw03_EditInverts.j0 k l1 bt349.1 bt355.1 ((bt355.1.length : Int) != (l1.length : Int))) else (caulkerlaw03_EditInverts.j0 k l1 bt349.1 bt355.1 true)) else (caulkerlaw03_EditInverts.j0 k l1 bt349.1 bt355.1 true)))) else (if bt349.2 = bt347.2 then (some ((bt349.1.length : Int) == 0)) else (some false))))) else (some true))) else (some false)) = some r := H
 have A3 := Aside0.mk A30
 clear A30
 by_cases c4 : t345 = true
 ·subst c4
  have H1 : ((caulkerlaw03_small.f k a0 l1).bind fun t346 => (if t346 = true then ((caulkerref03_Apply.f k a0 l1).bind fun bt347 => ((edit_Invert.f k a0 l1).bind fun bt349 => (if bt347.2 = 0 then ((edit_Apply.f k bt347.1 bt349.1).bind fun bt353 => ((edit_Invert.f k bt347.1 bt349.1).bind fun bt355 => (if (wrap64 ((wrap64 (bt349.2 + bt353.2)) + bt355.2)) = 0 then (if bt353.1.toList = a0.toList then (caulkerlaw03_EditInverts.j0 k l1 bt349.1 bt355.1 ((bt355.1.length : Int) != (l1.length : Int))) else (caulkerlaw03_EditInverts.j0 k l1 bt349.1 bt355.1 true)) else (caulkerlaw03_EditInverts.j0 k l1 bt349.1 bt355.1 true)))) else (if bt349.2 = bt347.2 then (some ((bt349.1.length : Int) == 0)) else (some false))))) else (some true))) = some r := by rw [if_pos rfl] at H; exact H
  clear H
  have H := H1
  clear H1
  replace H := Option.bind_eq_some_iff.mp H
  obtain ⟨t346, A50, H⟩ := H
  replace H : (if t346 = true then ((caulkerref03_Apply.f k a0 l1).bind fun bt347 => ((edit_Invert.f k a0 l1).bind fun bt349 => (if bt347.2 = 0 then ((edit_Apply.f k bt347.1 bt349.1).bind fun bt353 => ((edit_Invert.f k bt347.1 bt349.1).bind fun bt355 => (if (wrap64 ((wrap64 (bt349.2 + bt353.2)) + bt355.2)) = 0 then (if bt353.1.toList = a0.toList then (caulkerlaw03_EditInverts.j0 k l1 bt349.1 bt355.1 ((bt355.1.length : Int) != (l1.length : Int))) else (caulkerlaw03_EditInverts.j0 k l1 bt349.1 bt355.1 true)) else (caulkerlaw03_EditInverts.j0 k l1 bt349.1 bt355.1 true)))) else (if bt349.2 = bt347.2 then (some ((bt349.1.length : Int) == 0)) else (some false))))) else (some true)) = some r := H
  have A5 := Aside0.mk A50
  clear A50
  by_cases c6 : t346 = true
  ·subst c6
   have H1 : ((caulkerref03_Apply.f k a0 l1).bind fun bt347 => ((edit_Invert.f k a0 l1).bind fun bt349 => (if bt347.2 = 0 then ((edit_Apply.f k bt347.1 bt349.1).bind fun bt353 => ((edit_Invert.f k bt347.1 bt349.1).bind fun bt355 => (if (wrap64 ((wrap64 (bt349.2 + bt353.2)) + bt355.2)) = 0 then (if bt353.1.toList = a0.toList then (caulkerlaw03_EditInverts.j0 k l1 bt349.1 bt355.1 ((bt355.1.length : Int) != (l1.length : Int))) else (caulkerlaw03_EditInverts.j0 k l1 bt349.1 bt355.1 true)) else (caulkerlaw03_EditInverts.j0 k l1 bt349.1 bt355.1 true)))) else (if bt349.2 = bt347.2 then (some ((bt349.1.length : Int) == 0)) else (some false))))) = some r := by rw [if_pos rfl] at H; exact H
   clear H
   have H := H1
   clear H1
   replace H := Option.bind_eq_some_iff.mp H
   obtain ⟨⟨t347, t348⟩, A70, H⟩ := H
   replace H : ((edit_Invert.f k a0 l1).bind fun bt349 => (if t348 = 0 then ((edit_Apply.f k t347 bt349.1).bind fun bt353 => ((edit_Invert.f k t347 bt349.1).bind fun bt355 => (if (wrap64 ((wrap64 (bt349.2 + bt353.2)) + bt355.2)) = 0 then (if bt353.1.toList = a0.toList then (caulkerlaw03_EditInverts.j0 k l1 bt349.1 bt355.1 ((bt355.1.length : Int) != (l1.length : Int))) else (caulkerlaw03_EditInverts.j0 k l1 bt349.1 bt355.1 true)) else (caulkerlaw03_EditInverts.j0 k l1 bt349.1 bt355.1 true)))) else (if bt349.2 = t348 then (some ((bt349.1.length : Int) == 0)) else (some false)))) = some r := H
   have A7 := Aside0.mk A70
   clear A70
   replace H := Option.bind_eq_some_iff.mp H
   obtain ⟨⟨t349, t350⟩, A80, H⟩ := H
   replace H : (if t348 = 0 then ((edit_Apply.f k t347 t349).bind fun bt353 => ((edit_Invert.f k t347 t349).bind fun bt355 => (if (wrap64 ((wrap64 (t350 + bt353.2)) + bt355.2)) = 0 then (if bt353.1.toList = a0.toList then (caulkerlaw03_EditInverts.j0 k l1 t349 bt355.1 ((bt355.1.length : Int) != (l1.length : Int))) else (caulkerlaw03_EditInverts.j0 k l1 t349 bt355.1 true)) else (caulkerlaw03_EditInverts.j0 k l1 t349 bt355.1 true)))) else (if t350 = t348 then (some ((t349.length : Int) == 0)) else (some false))) = some r := H
   have A8 := Aside0.mk A80
   clear A80
   by_cases c9 : t348 = 0
   ·rw [if_pos c9] at H
    have c9b0 : (t348 == 0) = true := beq_iff_eq.mpr c9
    have c9b1 : (t348 != 0) = false := bne_eq_false_iff_eq.mpr c9
    clear c9
    replace H := Option.bind_eq_some_iff.mp H
    obtain ⟨⟨t353, t354⟩, A100, H⟩ := H
    replace H : ((edit_Invert.f k t347 t349).bind fun bt355 => (if (wrap64 ((wrap64 (t350 + t354)) + bt355.2)) = 0 then (if t353.toList = a0.toList then (caulkerlaw03_EditInverts.j0 k l1 t349 bt355.1 ((bt355.1.length : Int) != (l1.length : Int))) else (caulkerlaw03_EditInverts.j0 k l1 t349 bt355.1 true)) else (caulkerlaw03_EditInverts.j0 k l1 t349 bt355.1 true))) = some r := H
    have A10 := Aside0.mk A100
    clear A100
    replace H := Option.bind_eq_some_iff.mp H
    obtain ⟨⟨t355, t356⟩, A110, H⟩ := H
    replace H : (if (wrap64 ((wrap64 (t350 + t354)) + t356)) = 0 then (if t353.toList = a0.toList then (caulkerlaw03_EditInverts.j0 k l1 t349 t355 ((t355.length : Int) != (l1.length : Int))) else (caulkerlaw03_EditInverts.j0 k l1 t349 t355 true)) else (caulkerlaw03_EditInverts.j0 k l1 t349 t355 true)) = some r := H
    have A11 := Aside0.mk A110
    clear A110
    have HC12 := Aside0.mk H
    clear H
    go_enter Try.func10, Try.ntmps10
    go_upto_region 11 with (first | (go_at_call 29; (with_reducible refine (caulkerlaw03_edits.calls k  true _ A3.out).mono ?_); rintro e w13 ⟨rfl, hb⟩; have n0_ := pxs HB hb; clear HB; have HB := n0_; clear n0_; (try clear hb); (try clear hb2); (try clear hk); (try clear hi)) | (go_at_call 30; (with_reducible refine (caulkerlaw03_small.calls k a0 _ _ l1 true _ ?side1 ?side2 A5.out).mono ?_); (case side1 => exact pxc HR1 HB); (case side2 => exact HC1.out); rintro e w14 ⟨rfl, hb⟩; have n0_ := pxs HB hb; clear HB; have HB := n0_; clear n0_; (try clear hb); (try clear hb2); (try clear hk); (try clear hi)) | (go_at_call 32; (with_reducible refine (caulkerref03_Apply.calls k a0 _ _ l1 t347 t348 _ ?side1 ?side2 A7.out).mono ?_); (case side1 => exact pxc HR1 HB); (case side2 => exact HC1.out); rintro e w15 ⟨rfl, hb⟩; have n0_ := pxs HB hb; clear HB; have HB := n0_; clear n0_; (try clear hb); (try clear hb2); (try clear hk); (try clear hi)) | (go_at_call 35; (with_reducible refine (edit_Invert.calls k a0 _ _ l1 t349 t350 _ ?side1 ?side2 A8.out).mono ?_); (case side1 => exact pxc HR1 HB); (case side2 => exact HC1.out); rintro e w16 ⟨v351, rfl, ho0, hb⟩; have n0_ := Aside0.mk (Kd.R_lower ho0 (below_size (pxb HB))); have n1_ := pxs HB hb; clear HB; have HO352 := n0_; have HB := n1_; clear n0_ n1_; (try clear hb); (try clear hb2); (try clear hk); (try clear hi); (try clear ho0); obtain ⟨Ao17, co17, eo17⟩ := Kd.R_slice HO352.out; subst eo17) | (go_at_call 31; (with_reducible refine (edit_Apply.calls k t347 _ _ t349 t353 t354 _ ?side1 ?side2 A10.out).mono ?_); (case side1 => repeat (first | exact (Kd.R_reads' HO352.out).2.2 | (with_reducible refine Kd.C_alloc ?_ _) | (with_reducible refine Kd.C_drewN ?_ _) | (with_reducible refine Kd.C_drew ?_))); (case side2 => exact (Kd.R_reads' HO352.out).2.1); rintro e w18 ⟨rfl, hb⟩; have n0_ := Aside0.mk (Kd.R_below (pxr HO352) hb); have n1_ := pxs HB hb; clear HO352; clear HB; have HO352 := n0_; have HB := n1_; clear n0_ n1_; (try clear hb); (try clear hb2); (try clear hk); (try clear hi)) | (go_at_call 35; (with_reducible refine (edit_Invert.calls k t347 _ _ t349 t355 t356 _ ?side1 ?side2 A11.out).mono ?_); (case side1 => repeat (first | exact (Kd.R_reads' HO352.out).2.2 | (with_reducible refine Kd.C_alloc ?_ _) | (with_reducible refine Kd.C_drewN ?_ _) | (with_reducible refine Kd.C_drew ?_))); (case side2 => exact (Kd.R_reads' HO352.out).2.1); rintro e w19 ⟨v357, rfl, ho0, hb⟩; have n0_ := Aside0.mk (Kd.R_elder' (pxr HO352) (Kd.R_base ho0) hb); have n1_ := Aside0.mk (Kd.R_lower (Kd.R_new' ho0 (Kd.R_lt (pxr HO352))) (below_size (pxb HB))); have n2_ := pxs HB hb; clear HO352; clear HB; have HO352 := n0_; have HO358 := n1_; have HB := n2_; clear n0_ n1_ n2_; (try clear hb); (try clear hb2); (try clear hk); (try clear hi); (try clear ho0)))
    repeat (go_quiet (first | (go_at_call 29; (with_reducible refine (caulkerlaw03_edits.calls k  true _ A3.out).mono ?_); rintro e w13 ⟨rfl, hb⟩; have n0_ := pxs HB hb; clear HB; have HB := n0_; clear n0_; (try clear hb); (try clear hb2); (try clear hk); (try clear hi)) | (go_at_call 30; (with_reducible refine (caulkerlaw03_small.calls k a0 _ _ l1 true _ ?side1 ?side2 A5.out).mono ?_); (case side1 => exact pxc HR1 HB); (case side2 => exact HC1.out); rintro e w14 ⟨rfl, hb⟩; have n0_ := pxs HB hb; clear HB; have HB := n0_; clear n0_; (try clear hb); (try clear hb2); (try clear hk); (try clear hi)) | (go_at_call 32; (with_reducible refine (caulkerref03_Apply.calls k a0 _ _ l1 t347 t348 _ ?side1 ?side2 A7.out).mono ?_); (case side1 => exact pxc HR1 HB); (case side2 => exact HC1.out); rintro e w15 ⟨rfl, hb⟩; have n0_ := pxs HB hb; clear HB; have HB := n0_; clear n0_; (try clear hb); (try clear hb2); (try clear hk); (try clear hi)) | (go_at_call 35; (with_reducible refine (edit_Invert.calls k a0 _ _ l1 t349 t350 _ ?side1 ?side2 A8.out).mono ?_); (case side1 => exact pxc HR1 HB); (case side2 => exact HC1.out); rintro e w16 ⟨v351, rfl, ho0, hb⟩; have n0_ := Aside0.mk (Kd.R_lower ho0 (below_size (pxb HB))); have n1_ := pxs HB hb; clear HB; have HO352 := n0_; have HB := n1_; clear n0_ n1_; (try clear hb); (try clear hb2); (try clear hk); (try clear hi); (try clear ho0); obtain ⟨Ao17, co17, eo17⟩ := Kd.R_slice HO352.out; subst eo17) | (go_at_call 31; (with_reducible refine (edit_Apply.calls k t347 _ _ t349 t353 t354 _ ?side1 ?side2 A10.out).mono ?_); (case side1 => repeat (first | exact (Kd.R_reads' HO352.out).2.2 | (with_reducible refine Kd.C_alloc ?_ _) | (with_reducible refine Kd.C_drewN ?_ _) | (with_reducible refine Kd.C_drew ?_))); (case side2 => exact (Kd.R_reads' HO352.out).2.1); rintro e w18 ⟨rfl, hb⟩; have n0_ := Aside0.mk (Kd.R_below (pxr HO352) hb); have n1_ := pxs HB hb; clear HO352; clear HB; have HO352 := n0_; have HB := n1_; clear n0_ n1_; (try clear hb); (try clear hb2); (try clear hk); (try clear hi)) | (go_at_call 35; (with_reducible refine (edit_Invert.calls k t347 _ _ t349 t355 t356 _ ?side1 ?side2 A11.out).mono ?_); (case side1 => repeat (first | exact (Kd.R_reads' HO352.out).2.2 | (with_reducible refine Kd.C_alloc ?_ _) | (with_reducible refine Kd.C_drewN ?_ _) | (with_reducible refine Kd.C_drew ?_))); (case side2 => exact (Kd.R_reads' HO352.out).2.1); rintro e w19 ⟨v357, rfl, ho0, hb⟩; have n0_ := Aside0.mk (Kd.R_elder' (pxr HO352) (Kd.R_base ho0) hb); have n1_ := Aside0.mk (Kd.R_lower (Kd.R_new' ho0 (Kd.R_lt (pxr HO352))) (below_size (pxb HB))); have n2_ := pxs HB hb; clear HO352; clear HB; have HO352 := n0_; have HO358 := n1_; have HB := n2_; clear n0_ n1_ n2_; (try clear hb); (try clear hb2); (try clear hk); (try clear hi); (try clear ho0))); go_upto_region 11 with (first | (go_at_call 29; (with_reducible refine (caulkerlaw03_edits.calls k  true _ A3.out).mono ?_); rintro e w13 ⟨rfl, hb⟩; have n0_ := pxs HB hb; clear HB; have HB := n0_; clear n0_; (try clear hb); (try clear hb2); (try clear hk); (try clear hi)) | (go_at_call 30; (with_reducible refine (caulkerlaw03_small.calls k a0 _ _ l1 true _ ?side1 ?side2 A5.out).mono ?_); (case side1 => exact pxc HR1 HB); (case side2 => exact HC1.out); rintro e w14 ⟨rfl, hb⟩; have n0_ := pxs HB hb; clear HB; have HB := n0_; clear n0_; (try clear hb); (try clear hb2); (try clear hk); (try clear hi)) | (go_at_call 32; (with_reducible refine (caulkerref03_Apply.calls k a0 _ _ l1 t347 t348 _ ?side1 ?side2 A7.out).mono ?_); (case side1 => exact pxc HR1 HB); (case side2 => exact HC1.out); rintro e w15 ⟨rfl, hb⟩; have n0_ := pxs HB hb; clear HB; have HB := n0_; clear n0_; (try clear hb); (try clear hb2); (try clear hk); (try clear hi)) | (go_at_call 35; (with_reducible refine (edit_Invert.calls k a0 _ _ l1 t349 t350 _ ?side1 ?side2 A8.out).mono ?_); (case side1 => exact pxc HR1 HB); (case side2 => exact HC1.out); rintro e w16 ⟨v351, rfl, ho0, hb⟩; have n0_ := Aside0.mk (Kd.R_lower ho0 (below_size (pxb HB))); have n1_ := pxs HB hb; clear HB; have HO352 := n0_; have HB := n1_; clear n0_ n1_; (try clear hb); (try clear hb2); (try clear hk); (try clear hi); (try clear ho0); obtain ⟨Ao17, co17, eo17⟩ := Kd.R_slice HO352.out; subst eo17) | (go_at_call 31; (with_reducible refine (edit_Apply.calls k t347 _ _ t349 t353 t354 _ ?side1 ?side2 A10.out).mono ?_); (case side1 => repeat (first | exact (Kd.R_reads' HO352.out).2.2 | (with_reducible refine Kd.C_alloc ?_ _) | (with_reducible refine Kd.C_drewN ?_ _) | (with_reducible refine Kd.C_drew ?_))); (case side2 => exact (Kd.R_reads' HO352.out).2.1); rintro e w18 ⟨rfl, hb⟩; have n0_ := Aside0.mk (Kd.R_below (pxr HO352) hb); have n1_ := pxs HB hb; clear HO352; clear HB; have HO352 := n0_; have HB := n1_; clear n0_ n1_; (try clear hb); (try clear hb2); (try clear hk); (try clear hi)) | (go_at_call 35; (with_reducible refine (edit_Invert.calls k t347 _ _ t349 t355 t356 _ ?side1 ?side2 A11.out).mono ?_); (case side1 => repeat (first | exact (Kd.R_reads' HO352.out).2.2 | (with_reducible refine Kd.C_alloc ?_ _) | (with_reducible refine Kd.C_drewN ?_ _) | (with_reducible refine Kd.C_drew ?_))); (case side2 => exact (Kd.R_reads' HO352.out).2.1); rintro e w19 ⟨v357, rfl, ho0, hb⟩; have n0_ := Aside0.mk (Kd.R_elder' (pxr HO352) (Kd.R_base ho0) hb); have n1_ := Aside0.mk (Kd.R_lower (Kd.R_new' ho0 (Kd.R_lt (pxr HO352))) (below_size (pxb HB))); have n2_ := pxs HB hb; clear HO352; clear HB; have HO352 := n0_; have HO358 := n1_; have HB := n2_; clear n0_ n1_ n2_; (try clear hb); (try clear hb2); (try clear hk); (try clear hi); (try clear ho0))))
    (try simp only [Act.put, List.setIfInBounds_toArray, List.set_cons_zero, List.set_cons_succ])
    go_cut [71] (fun v71 wc => ∃ (kq : Nat) (x71_11 : Bool), v71 = .bool x71_11 ∧ Aside0 (caulkerlaw03_EditInverts.j0 kq l1 t349 t355 x71_11 = some r) ∧ Aside0 (kq ≤ k) ∧ Aside0 (Kd.R k60 60 wc w.heap.size (fun k_ => some k_ ≠ (v357 : Value).ownBlock) (.slice Ao17 t349.length co17) t349) ∧ Aside0 (Kd.R k60 60 wc w.heap.size (fun k_ => some k_ ≠ ((.slice Ao17 t349.length co17) : Value).ownBlock) v357 t355) ∧ Aside0 (Below w.heap.size w wc))
    case first =>
     have H := HC12.out
     clear HC12
     by_cases c20 : (wrap64 ((wrap64 (t350 + t354)) + t356)) = 0
     ·rw [if_pos c20] at H
      have c20b0 : ((wrap64 ((wrap64 (t350 + t354)) + t356)) == 0) = true := beq_iff_eq.mpr c20
      have c20b1 : ((wrap64 ((wrap64 (t350 + t354)) + t356)) != 0) = false := bne_eq_false_iff_eq.mpr c20
      clear c20
      (first | rw [c20b0] | (simp only [i64_w, i32_w]; rw [c20b0]) | skip)
      by_cases c21 : t353.toList = a0.toList
      ·rw [if_pos c21] at H
       have c21b0 : (t353.toList == a0.toList) = true := beq_iff_eq.mpr c21
       have c21b1 : (t353.toList != a0.toList) = false := bne_eq_false_iff_eq.mpr c21
       clear c21
       have H' := Aside0.mk H
       clear H
       obtain ⟨Ao22, co22, eo22⟩ := Kd.R_slice HO358.out
       subst eo22
       go_wp2
       repeat (go_quiet (fail); try go_wp2)
       go_meet
       case rel => exact ⟨_, (((t355.length : Int) != (l1.length : Int))), (by first | rfl | (simp; done) | (simp [*]; done)), H', ⟨by first | omega | exact Nat.le_refl _⟩, ⟨by (with_reducible repeat (first | apply Kd.R_alloc | apply Kd.R_drewN | apply Kd.R_drew)); exact Kd.R_mono HO352.out (fun _ hk => hk.2)⟩, ⟨by (with_reducible repeat (first | apply Kd.R_alloc | apply Kd.R_drewN | apply Kd.R_drew)); exact Kd.R_mono HO358.out (fun _ hk => hk.2)⟩, ⟨pxb HB⟩⟩
      ·rw [if_neg c21] at H
       have c21b0 : (t353.toList == a0.toList) = false := beq_eq_false_iff_ne.mpr c21
       have c21b1 : (t353.toList != a0.toList) = true := bne_iff_ne.mpr c21
       have H' := Aside0.mk H
       clear H
       go_wp2
       repeat (go_quiet (fail); try go_wp2)
       go_meet
       case rel => exact ⟨_, (true), (by first | rfl | (simp; done) | (simp [*]; done)), H', ⟨by first | omega | exact Nat.le_refl _⟩, ⟨by (with_reducible repeat (first | apply Kd.R_alloc | apply Kd.R_drewN | apply Kd.R_drew)); exact Kd.R_mono HO352.out (fun _ hk => hk.2)⟩, ⟨by (with_reducible repeat (first | apply Kd.R_alloc | apply Kd.R_drewN | apply Kd.R_drew)); exact Kd.R_mono HO358.out (fun _ hk => hk.2)⟩, ⟨pxb HB⟩⟩
     ·rw [if_neg c20] at H
      have c20b0 : ((wrap64 ((wrap64 (t350 + t354)) + t356)) == 0) = false := beq_eq_false_iff_ne.mpr c20
      have c20b1 : ((wrap64 ((wrap64 (t350 + t354)) + t356)) != 0) = true := bne_iff_ne.mpr c20
      (first | rw [c20b0] | (simp only [i64_w, i32_w]; rw [c20b0]) | skip)
      have H' := Aside0.mk H
      clear H
      go_wp2
      repeat (go_quiet (fail); try go_wp2)
      go_meet
      case rel => exact ⟨_, (true), (by first | rfl | (simp; done) | (simp [*]; done)), H', ⟨by first | omega | exact Nat.le_refl _⟩, ⟨by (with_reducible repeat (first | apply Kd.R_alloc | apply Kd.R_drewN | apply Kd.R_drew)); exact Kd.R_mono HO352.out (fun _ hk => hk.2)⟩, ⟨by (with_reducible repeat (first | apply Kd.R_alloc | apply Kd.R_drewN | apply Kd.R_drew)); exact Kd.R_mono HO358.out (fun _ hk => hk.2)⟩, ⟨pxb HB⟩⟩
    case rest =>
     clear HC12
     try clear c1
     try clear c2
     try clear p2
     try clear c4
     try clear c6
     try clear p6
     try clear c9
     try clear c9b0
     try clear c9b1
     try clear c10
     try clear c20
     try clear c20b0
     try clear c20b1
     try clear c21
     try clear c21b0
     try clear c21b1
     obtain ⟨kq, x71_11, rfl, HA, HJ11, HO_7, HO_11, HB⟩ := hcut
     cases kq with
     | zero => exact absurd HA.out (by simp [caulkerlaw03_EditInverts.j0])
     | succ kj11 =>
      have H := HA.out
      clear HA
      simp only [caulkerlaw03_EditInverts.j0] at H
      by_cases c23 : x71_11 = true
      ·subst c23
       have H1 : (some false) = some r := by rw [if_pos rfl] at H; exact H
       clear H
       have H := H1
       clear H1
       obtain rfl := Option.some.inj H
       go_wp2
       repeat (go_quiet (fail); try go_wp2)
       go_ret
       exact ⟨by first | rfl | (simp [errW_none, errW_some] <;> rfl) | (simp [*, errW_none, errW_some] <;> rfl), pxb HB⟩
      ·replace c23 := Bool.eq_false_iff.mpr c23
       subst c23
       have H1 : (caulkerlaw03_EditInverts.l0 kj11 l1 t349 t355 (t355.length : Int) 0) = some r := by rw [if_neg (show ¬ (false = true) by decide)] at H; exact H
       clear H
       have H := H1
       clear H1
       have H' := Aside0.mk H
       clear H
       obtain ⟨Ao24, co24, eo24⟩ := Kd.R_slice HO_11.out
       subst eo24
       go_wp2
       repeat (go_quiet (fail); try go_wp2)
       go_loopg [74] kj11 (fun kq v74 w' => ∃ (x74_2 : Int), v74 = .int .i64 x74_2 ∧ Aside0 (caulkerlaw03_EditInverts.l0 kq l1 t349 t355 (t355.length : Int) x74_2 = some r) ∧ Aside0 (kq ≤ kj11) ∧ Aside0 (Kd.R k60 60 w' w.heap.size (fun k_ => some k_ ≠ ((.slice Ao24 t355.length co24) : Value).ownBlock) (.slice Ao17 t349.length co17) t349) ∧ Aside0 (Kd.R k60 60 w' w.heap.size (fun k_ => some k_ ≠ ((.slice Ao17 t349.length co17) : Value).ownBlock) (.slice Ao24 t355.length co24) t355) ∧ Aside0 (Below w.heap.size w w'))
       case atStart => exact ⟨(0), (by first | rfl | (simp; done) | (simp [*]; done)), H', ⟨Nat.le_refl _⟩, ⟨pxr HO_7⟩, ⟨pxr HO_11⟩, ⟨pxb HB⟩⟩
       case round =>
        clear H'
        try clear c1
        try clear c2
        try clear p2
        try clear c4
        try clear c6
        try clear p6
        try clear c9
        try clear c9b0
        try clear c9b1
        try clear c10
        try clear c20
        try clear c20b0
        try clear c20b1
        try clear c21
        try clear c21b0
        try clear c21b1
        try clear c23
        try clear p2
        try clear p6
        obtain ⟨x74_2, rfl, HA, HK2, HO_7, HO_11, HB⟩ := hrel
        cases gk with
        | zero => exact absurd HA.out (by simp [caulkerlaw03_EditInverts.l0])
        | succ k2 =>
         have H := HA.out
         clear HA
         simp only [caulkerlaw03_EditInverts.l0] at H
         by_cases c25 : x74_2 < (t355.length : Int)
         ·rw [if_pos c25] at H
          have c25b0 : decide (x74_2 < (t355.length : Int)) = true := decide_eq_true c25
          clear c25
          by_cases c26 : 0 ≤ x74_2
          ·rw [if_pos c26] at H
           have c26b0 : decide (0 ≤ x74_2) = true := decide_eq_true c26
           clear c26
           by_cases c27 : x74_2 < (t355.length : Int)
           ·rw [if_pos c27] at H
            have c27b0 : decide (x74_2 < (t355.length : Int)) = true := decide_eq_true c27
            clear c27
            by_cases c28 : x74_2 < (l1.length : Int)
            ·rw [if_pos c28] at H
             have c28b0 : decide (x74_2 < (l1.length : Int)) = true := decide_eq_true c28
             clear c28
             by_cases c29 : ((!(((rd_T60 t355 x74_2).f0.f0) == ((rd_T60 l1 x74_2).f0.f0)) || (!(((rd_T60 t355 x74_2).f0.f1) == ((rd_T60 l1 x74_2).f0.f1)))) || (!((((rd_T60 t355 x74_2).f1).toList) == (((rd_T60 l1 x74_2).f1).toList)))) = true
             ·rw [if_pos c29] at H
              have c29b0 : ((!(((rd_T60 t355 x74_2).f0.f0) == ((rd_T60 l1 x74_2).f0.f0)) || (!(((rd_T60 t355 x74_2).f0.f1) == ((rd_T60 l1 x74_2).f0.f1)))) || (!((((rd_T60 t355 x74_2).f1).toList) == (((rd_T60 l1 x74_2).f1).toList)))) = true := c29
              clear c29
              obtain rfl := Option.some.inj H
              have p359 : 0 ≤ (x74_2 : Int) := of_decide_eq_true (by first | (with_reducible assumption) | assumption)
              have q359 : x74_2 < (t355.length : Int) := of_decide_eq_true (by first | (with_reducible assumption) | assumption)
              obtain ⟨ad359, e359, hx359_0, hx359_1, hx359_2⟩ := at_T60 (Kd.R_reads' HO_11.out).2.2 x74_2 p359 q359
              cases e359
              replace p359 := eq_true p359
              replace q359 := eq_true q359
              have p360 : 0 ≤ (x74_2 : Int) := of_decide_eq_true (by first | (with_reducible assumption) | assumption)
              have q360 : x74_2 < (l1.length : Int) := of_decide_eq_true (by first | (with_reducible assumption) | assumption)
              obtain ⟨ad360, e360, hx360_0, hx360_1, hx360_2⟩ := at_T60 HR1.out x74_2 p360 q360
              cases e360
              replace hx360_0 := (HB.out.cell (World.block_lt_of_cell? w _ hx360_0)).trans hx360_0
              replace hx360_1 := (HB.out.cell (World.block_lt_of_cell? w _ hx360_1)).trans hx360_1
              replace hx360_2 := (HB.out.cell (World.block_lt_of_cell? w _ hx360_2)).trans hx360_2
              replace p360 := eq_true p360
              replace q360 := eq_true q360
              go_wp2
              repeat (go_quiet (fail); try go_wp2)
              go_ret
              exact ⟨by first | rfl | (simp [errW_none, errW_some] <;> rfl) | (simp [*, errW_none, errW_some] <;> rfl), pxb HB⟩
             ·rw [if_neg c29] at H
              have c29b0 : ((!(((rd_T60 t355 x74_2).f0.f0) == ((rd_T60 l1 x74_2).f0.f0)) || (!(((rd_T60 t355 x74_2).f0.f1) == ((rd_T60 l1 x74_2).f0.f1)))) || (!((((rd_T60 t355 x74_2).f1).toList) == (((rd_T60 l1 x74_2).f1).toList)))) = false := by simpa using c29
              clear c29
              have H' := Aside0.mk H
              clear H
              have p359 : 0 ≤ (x74_2 : Int) := of_decide_eq_true (by first | (with_reducible assumption) | assumption)
              have q359 : x74_2 < (t355.length : Int) := of_decide_eq_true (by first | (with_reducible assumption) | assumption)
              obtain ⟨ad359, e359, hx359_0, hx359_1, hx359_2⟩ := at_T60 (Kd.R_reads' HO_11.out).2.2 x74_2 p359 q359
              cases e359
              replace p359 := eq_true p359
              replace q359 := eq_true q359
              have p360 : 0 ≤ (x74_2 : Int) := of_decide_eq_true (by first | (with_reducible assumption) | assumption)
              have q360 : x74_2 < (l1.length : Int) := of_decide_eq_true (by first | (with_reducible assumption) | assumption)
              obtain ⟨ad360, e360, hx360_0, hx360_1, hx360_2⟩ := at_T60 HR1.out x74_2 p360 q360
              cases e360
              replace hx360_0 := (HB.out.cell (World.block_lt_of_cell? w _ hx360_0)).trans hx360_0
              replace hx360_1 := (HB.out.cell (World.block_lt_of_cell? w _ hx360_1)).trans hx360_1
              replace hx360_2 := (HB.out.cell (World.block_lt_of_cell? w _ hx360_2)).trans hx360_2
              replace p360 := eq_true p360
              replace q360 := eq_true q360
              go_wp2
              repeat (go_quiet (fail); try go_wp2)
              go_roundg k2
              case measure => have := HJ11.out; have := HK2.out; omega
              case rel => exact ⟨(wrap64 (x74_2 + 1)), (by first | rfl | (simp; done) | (simp [*]; done)), H', ⟨by have := HJ11.out; have := HK2.out; omega⟩, ⟨pxr HO_7⟩, ⟨pxr HO_11⟩, ⟨pxb HB⟩⟩
            ·rw [if_neg c28] at H
             exact absurd H (by simp)
           ·rw [if_neg c27] at H
            exact absurd H (by simp)
          ·rw [if_neg c26] at H
           exact absurd H (by simp)
         ·rw [if_neg c25] at H
          have c25b0 : decide (x74_2 < (t355.length : Int)) = false := decide_eq_false c25
          clear c25
          replace H := Option.bind_eq_some_iff.mp H
          obtain ⟨t361, A300, H⟩ := H
          replace H : ((edit_Cost.f k2 l1).bind fun t362 => (some (t361 == t362))) = some r := H
          have A30 := Aside0.mk A300
          clear A300
          replace H := Option.bind_eq_some_iff.mp H
          obtain ⟨t362, A310, H⟩ := H
          replace H : (some (t361 == t362)) = some r := H
          have A31 := Aside0.mk A310
          clear A310
          obtain rfl := Option.some.inj H
          go_wp2_with (first | (go_at_call 36; (with_reducible refine (edit_Cost.calls k2 _ _ t349 t361 _ ?side1 ?side2 A30.out).mono ?_); (case side1 => repeat (first | exact (Kd.R_reads' HO_7.out).2.2 | (with_reducible refine Kd.C_alloc ?_ _) | (with_reducible refine Kd.C_drewN ?_ _) | (with_reducible refine Kd.C_drew ?_))); (case side2 => exact (Kd.R_reads' HO_7.out).2.1); rintro e w32 ⟨rfl, hb⟩; have n0_ := Aside0.mk (Kd.R_below (pxr HO_7) hb); have n1_ := Aside0.mk (Kd.R_below (pxr HO_11) hb); have n2_ := pxs HB hb; clear HO_7; clear HO_11; clear HB; have HO_7 := n0_; have HO_11 := n1_; have HB := n2_; clear n0_ n1_ n2_; (try clear hb); (try clear hb2); (try clear hk); (try clear hi)) | (go_at_call 36; (with_reducible refine (edit_Cost.calls k2 _ _ l1 t362 _ ?side1 ?side2 A31.out).mono ?_); (case side1 => exact pxc HR1 HB); (case side2 => exact HC1.out); rintro e w33 ⟨rfl, hb⟩; have n0_ := Aside0.mk (Kd.R_below (pxr HO_7) hb); have n1_ := Aside0.mk (Kd.R_below (pxr HO_11) hb); have n2_ := pxs HB hb; clear HO_7; clear HO_11; clear HB; have HO_7 := n0_; have HO_11 := n1_; have HB := n2_; clear n0_ n1_ n2_; (try clear hb); (try clear hb2); (try clear hk); (try clear hi)))
          repeat (go_quiet (first | (go_at_call 36; (with_reducible refine (edit_Cost.calls k2 _ _ t349 t361 _ ?side1 ?side2 A30.out).mono ?_); (case side1 => repeat (first | exact (Kd.R_reads' HO_7.out).2.2 | (with_reducible refine Kd.C_alloc ?_ _) | (with_reducible refine Kd.C_drewN ?_ _) | (with_reducible refine Kd.C_drew ?_))); (case side2 => exact (Kd.R_reads' HO_7.out).2.1); rintro e w32 ⟨rfl, hb⟩; have n0_ := Aside0.mk (Kd.R_below (pxr HO_7) hb); have n1_ := Aside0.mk (Kd.R_below (pxr HO_11) hb); have n2_ := pxs HB hb; clear HO_7; clear HO_11; clear HB; have HO_7 := n0_; have HO_11 := n1_; have HB := n2_; clear n0_ n1_ n2_; (try clear hb); (try clear hb2); (try clear hk); (try clear hi)) | (go_at_call 36; (with_reducible refine (edit_Cost.calls k2 _ _ l1 t362 _ ?side1 ?side2 A31.out).mono ?_); (case side1 => exact pxc HR1 HB); (case side2 => exact HC1.out); rintro e w33 ⟨rfl, hb⟩; have n0_ := Aside0.mk (Kd.R_below (pxr HO_7) hb); have n1_ := Aside0.mk (Kd.R_below (pxr HO_11) hb); have n2_ := pxs HB hb; clear HO_7; clear HO_11; clear HB; have HO_7 := n0_; have HO_11 := n1_; have HB := n2_; clear n0_ n1_ n2_; (try clear hb); (try clear hb2); (try clear hk); (try clear hi))); try go_wp2_with (first | (go_at_call 36; (with_reducible refine (edit_Cost.calls k2 _ _ t349 t361 _ ?side1 ?side2 A30.out).mono ?_); (case side1 => repeat (first | exact (Kd.R_reads' HO_7.out).2.2 | (with_reducible refine Kd.C_alloc ?_ _) | (with_reducible refine Kd.C_drewN ?_ _) | (with_reducible refine Kd.C_drew ?_))); (case side2 => exact (Kd.R_reads' HO_7.out).2.1); rintro e w32 ⟨rfl, hb⟩; have n0_ := Aside0.mk (Kd.R_below (pxr HO_7) hb); have n1_ := Aside0.mk (Kd.R_below (pxr HO_11) hb); have n2_ := pxs HB hb; clear HO_7; clear HO_11; clear HB; have HO_7 := n0_; have HO_11 := n1_; have HB := n2_; clear n0_ n1_ n2_; (try clear hb); (try clear hb2); (try clear hk); (try clear hi)) | (go_at_call 36; (with_reducible refine (edit_Cost.calls k2 _ _ l1 t362 _ ?side1 ?side2 A31.out).mono ?_); (case side1 => exact pxc HR1 HB); (case side2 => exact HC1.out); rintro e w33 ⟨rfl, hb⟩; have n0_ := Aside0.mk (Kd.R_below (pxr HO_7) hb); have n1_ := Aside0.mk (Kd.R_below (pxr HO_11) hb); have n2_ := pxs HB hb; clear HO_7; clear HO_11; clear HB; have HO_7 := n0_; have HO_11 := n1_; have HB := n2_; clear n0_ n1_ n2_; (try clear hb); (try clear hb2); (try clear hk); (try clear hi))))
          go_ret
          exact ⟨by first | rfl | (simp [errW_none, errW_some] <;> rfl) | (simp [*, errW_none, errW_some] <;> rfl), pxb HB⟩
   ·rw [if_neg c9] at H
    have c9b0 : (t348 == 0) = false := beq_eq_false_iff_ne.mpr c9
    have c9b1 : (t348 != 0) = true := bne_iff_ne.mpr c9
    by_cases c34 : t350 = t348
    ·rw [if_pos c34] at H
     have c34b0 : (t350 == t348) = true := beq_iff_eq.mpr c34
     have c34b1 : (t350 != t348) = false := bne_eq_false_iff_eq.mpr c34
     clear c34
     obtain rfl := Option.some.inj H
     go_enter Try.func10, Try.ntmps10
     go_wp2_with (first | (go_at_call 29; (with_reducible refine (caulkerlaw03_edits.calls k  true _ A3.out).mono ?_); rintro e w35 ⟨rfl, hb⟩; have n0_ := pxs HB hb; clear HB; have HB := n0_; clear n0_; (try clear hb); (try clear hb2); (try clear hk); (try clear hi)) | (go_at_call 30; (with_reducible refine (caulkerlaw03_small.calls k a0 _ _ l1 true _ ?side1 ?side2 A5.out).mono ?_); (case side1 => exact pxc HR1 HB); (case side2 => exact HC1.out); rintro e w36 ⟨rfl, hb⟩; have n0_ := pxs HB hb; clear HB; have HB := n0_; clear n0_; (try clear hb); (try clear hb2); (try clear hk); (try clear hi)) | (go_at_call 32; (with_reducible refine (caulkerref03_Apply.calls k a0 _ _ l1 t347 t348 _ ?side1 ?side2 A7.out).mono ?_); (case side1 => exact pxc HR1 HB); (case side2 => exact HC1.out); rintro e w37 ⟨rfl, hb⟩; have n0_ := pxs HB hb; clear HB; have HB := n0_; clear n0_; (try clear hb); (try clear hb2); (try clear hk); (try clear hi)) | (go_at_call 35; (with_reducible refine (edit_Invert.calls k a0 _ _ l1 t349 t350 _ ?side1 ?side2 A8.out).mono ?_); (case side1 => exact pxc HR1 HB); (case side2 => exact HC1.out); rintro e w38 ⟨v351, rfl, ho0, hb⟩; have n0_ := Aside0.mk (Kd.R_lower ho0 (below_size (pxb HB))); have n1_ := pxs HB hb; clear HB; have HO352 := n0_; have HB := n1_; clear n0_ n1_; (try clear hb); (try clear hb2); (try clear hk); (try clear hi); (try clear ho0); obtain ⟨Ao39, co39, eo39⟩ := Kd.R_slice HO352.out; subst eo39))
     repeat (go_quiet (first | (go_at_call 29; (with_reducible refine (caulkerlaw03_edits.calls k  true _ A3.out).mono ?_); rintro e w35 ⟨rfl, hb⟩; have n0_ := pxs HB hb; clear HB; have HB := n0_; clear n0_; (try clear hb); (try clear hb2); (try clear hk); (try clear hi)) | (go_at_call 30; (with_reducible refine (caulkerlaw03_small.calls k a0 _ _ l1 true _ ?side1 ?side2 A5.out).mono ?_); (case side1 => exact pxc HR1 HB); (case side2 => exact HC1.out); rintro e w36 ⟨rfl, hb⟩; have n0_ := pxs HB hb; clear HB; have HB := n0_; clear n0_; (try clear hb); (try clear hb2); (try clear hk); (try clear hi)) | (go_at_call 32; (with_reducible refine (caulkerref03_Apply.calls k a0 _ _ l1 t347 t348 _ ?side1 ?side2 A7.out).mono ?_); (case side1 => exact pxc HR1 HB); (case side2 => exact HC1.out); rintro e w37 ⟨rfl, hb⟩; have n0_ := pxs HB hb; clear HB; have HB := n0_; clear n0_; (try clear hb); (try clear hb2); (try clear hk); (try clear hi)) | (go_at_call 35; (with_reducible refine (edit_Invert.calls k a0 _ _ l1 t349 t350 _ ?side1 ?side2 A8.out).mono ?_); (case side1 => exact pxc HR1 HB); (case side2 => exact HC1.out); rintro e w38 ⟨v351, rfl, ho0, hb⟩; have n0_ := Aside0.mk (Kd.R_lower ho0 (below_size (pxb HB))); have n1_ := pxs HB hb; clear HB; have HO352 := n0_; have HB := n1_; clear n0_ n1_; (try clear hb); (try clear hb2); (try clear hk); (try clear hi); (try clear ho0); obtain ⟨Ao39, co39, eo39⟩ := Kd.R_slice HO352.out; subst eo39)); try go_wp2_with (first | (go_at_call 29; (with_reducible refine (caulkerlaw03_edits.calls k  true _ A3.out).mono ?_); rintro e w35 ⟨rfl, hb⟩; have n0_ := pxs HB hb; clear HB; have HB := n0_; clear n0_; (try clear hb); (try clear hb2); (try clear hk); (try clear hi)) | (go_at_call 30; (with_reducible refine (caulkerlaw03_small.calls k a0 _ _ l1 true _ ?side1 ?side2 A5.out).mono ?_); (case side1 => exact pxc HR1 HB); (case side2 => exact HC1.out); rintro e w36 ⟨rfl, hb⟩; have n0_ := pxs HB hb; clear HB; have HB := n0_; clear n0_; (try clear hb); (try clear hb2); (try clear hk); (try clear hi)) | (go_at_call 32; (with_reducible refine (caulkerref03_Apply.calls k a0 _ _ l1 t347 t348 _ ?side1 ?side2 A7.out).mono ?_); (case side1 => exact pxc HR1 HB); (case side2 => exact HC1.out); rintro e w37 ⟨rfl, hb⟩; have n0_ := pxs HB hb; clear HB; have HB := n0_; clear n0_; (try clear hb); (try clear hb2); (try clear hk); (try clear hi)) | (go_at_call 35; (with_reducible refine (edit_Invert.calls k a0 _ _ l1 t349 t350 _ ?side1 ?side2 A8.out).mono ?_); (case side1 => exact pxc HR1 HB); (case side2 => exact HC1.out); rintro e w38 ⟨v351, rfl, ho0, hb⟩; have n0_ := Aside0.mk (Kd.R_lower ho0 (below_size (pxb HB))); have n1_ := pxs HB hb; clear HB; have HO352 := n0_; have HB := n1_; clear n0_ n1_; (try clear hb); (try clear hb2); (try clear hk); (try clear hi); (try clear ho0); obtain ⟨Ao39, co39, eo39⟩ := Kd.R_slice HO352.out; subst eo39)))
     go_ret
     exact ⟨by first | rfl | (simp [errW_none, errW_some] <;> rfl) | (simp [*, errW_none, errW_some] <;> rfl), pxb HB⟩
    ·rw [if_neg c34] at H
     have c34b0 : (t350 == t348) = false := beq_eq_false_iff_ne.mpr c34
     have c34b1 : (t350 != t348) = true := bne_iff_ne.mpr c34
     obtain rfl := Option.some.inj H
     go_enter Try.func10, Try.ntmps10
     go_wp2_with (first | (go_at_call 29; (with_reducible refine (caulkerlaw03_edits.calls k  true _ A3.out).mono ?_); rintro e w40 ⟨rfl, hb⟩; have n0_ := pxs HB hb; clear HB; have HB := n0_; clear n0_; (try clear hb); (try clear hb2); (try clear hk); (try clear hi)) | (go_at_call 30; (with_reducible refine (caulkerlaw03_small.calls k a0 _ _ l1 true _ ?side1 ?side2 A5.out).mono ?_); (case side1 => exact pxc HR1 HB); (case side2 => exact HC1.out); rintro e w41 ⟨rfl, hb⟩; have n0_ := pxs HB hb; clear HB; have HB := n0_; clear n0_; (try clear hb); (try clear hb2); (try clear hk); (try clear hi)) | (go_at_call 32; (with_reducible refine (caulkerref03_Apply.calls k a0 _ _ l1 t347 t348 _ ?side1 ?side2 A7.out).mono ?_); (case side1 => exact pxc HR1 HB); (case side2 => exact HC1.out); rintro e w42 ⟨rfl, hb⟩; have n0_ := pxs HB hb; clear HB; have HB := n0_; clear n0_; (try clear hb); (try clear hb2); (try clear hk); (try clear hi)) | (go_at_call 35; (with_reducible refine (edit_Invert.calls k a0 _ _ l1 t349 t350 _ ?side1 ?side2 A8.out).mono ?_); (case side1 => exact pxc HR1 HB); (case side2 => exact HC1.out); rintro e w43 ⟨v351, rfl, ho0, hb⟩; have n0_ := Aside0.mk (Kd.R_lower ho0 (below_size (pxb HB))); have n1_ := pxs HB hb; clear HB; have HO352 := n0_; have HB := n1_; clear n0_ n1_; (try clear hb); (try clear hb2); (try clear hk); (try clear hi); (try clear ho0)))
     repeat (go_quiet (first | (go_at_call 29; (with_reducible refine (caulkerlaw03_edits.calls k  true _ A3.out).mono ?_); rintro e w40 ⟨rfl, hb⟩; have n0_ := pxs HB hb; clear HB; have HB := n0_; clear n0_; (try clear hb); (try clear hb2); (try clear hk); (try clear hi)) | (go_at_call 30; (with_reducible refine (caulkerlaw03_small.calls k a0 _ _ l1 true _ ?side1 ?side2 A5.out).mono ?_); (case side1 => exact pxc HR1 HB); (case side2 => exact HC1.out); rintro e w41 ⟨rfl, hb⟩; have n0_ := pxs HB hb; clear HB; have HB := n0_; clear n0_; (try clear hb); (try clear hb2); (try clear hk); (try clear hi)) | (go_at_call 32; (with_reducible refine (caulkerref03_Apply.calls k a0 _ _ l1 t347 t348 _ ?side1 ?side2 A7.out).mono ?_); (case side1 => exact pxc HR1 HB); (case side2 => exact HC1.out); rintro e w42 ⟨rfl, hb⟩; have n0_ := pxs HB hb; clear HB; have HB := n0_; clear n0_; (try clear hb); (try clear hb2); (try clear hk); (try clear hi)) | (go_at_call 35; (with_reducible refine (edit_Invert.calls k a0 _ _ l1 t349 t350 _ ?side1 ?side2 A8.out).mono ?_); (case side1 => exact pxc HR1 HB); (case side2 => exact HC1.out); rintro e w43 ⟨v351, rfl, ho0, hb⟩; have n0_ := Aside0.mk (Kd.R_lower ho0 (below_size (pxb HB))); have n1_ := pxs HB hb; clear HB; have HO352 := n0_; have HB := n1_; clear n0_ n1_; (try clear hb); (try clear hb2); (try clear hk); (try clear hi); (try clear ho0))); try go_wp2_with (first | (go_at_call 29; (with_reducible refine (caulkerlaw03_edits.calls k  true _ A3.out).mono ?_); rintro e w40 ⟨rfl, hb⟩; have n0_ := pxs HB hb; clear HB; have HB := n0_; clear n0_; (try clear hb); (try clear hb2); (try clear hk); (try clear hi)) | (go_at_call 30; (with_reducible refine (caulkerlaw03_small.calls k a0 _ _ l1 true _ ?side1 ?side2 A5.out).mono ?_); (case side1 => exact pxc HR1 HB); (case side2 => exact HC1.out); rintro e w41 ⟨rfl, hb⟩; have n0_ := pxs HB hb; clear HB; have HB := n0_; clear n0_; (try clear hb); (try clear hb2); (try clear hk); (try clear hi)) | (go_at_call 32; (with_reducible refine (caulkerref03_Apply.calls k a0 _ _ l1 t347 t348 _ ?side1 ?side2 A7.out).mono ?_); (case side1 => exact pxc HR1 HB); (case side2 => exact HC1.out); rintro e w42 ⟨rfl, hb⟩; have n0_ := pxs HB hb; clear HB; have HB := n0_; clear n0_; (try clear hb); (try clear hb2); (try clear hk); (try clear hi)) | (go_at_call 35; (with_reducible refine (edit_Invert.calls k a0 _ _ l1 t349 t350 _ ?side1 ?side2 A8.out).mono ?_); (case side1 => exact pxc HR1 HB); (case side2 => exact HC1.out); rintro e w43 ⟨v351, rfl, ho0, hb⟩; have n0_ := Aside0.mk (Kd.R_lower ho0 (below_size (pxb HB))); have n1_ := pxs HB hb; clear HB; have HO352 := n0_; have HB := n1_; clear n0_ n1_; (try clear hb); (try clear hb2); (try clear hk); (try clear hi); (try clear ho0))))
     go_ret
     exact ⟨by first | rfl | (simp [errW_none, errW_some] <;> rfl) | (simp [*, errW_none, errW_some] <;> rfl), pxb HB⟩
  ·replace c6 := Bool.eq_false_iff.mpr c6
   subst c6
   have H1 : (some true) = some r := by rw [if_neg (show ¬ (false = true) by decide)] at H; exact H
   clear H
   have H := H1
   clear H1
   obtain rfl := Option.some.inj H
   go_enter Try.func10, Try.ntmps10
   go_wp2_with (first | (go_at_call 29; (with_reducible refine (caulkerlaw03_edits.calls k  true _ A3.out).mono ?_); rintro e w44 ⟨rfl, hb⟩; have n0_ := pxs HB hb; clear HB; have HB := n0_; clear n0_; (try clear hb); (try clear hb2); (try clear hk); (try clear hi)) | (go_at_call 30; (with_reducible refine (caulkerlaw03_small.calls k a0 _ _ l1 false _ ?side1 ?side2 A5.out).mono ?_); (case side1 => exact pxc HR1 HB); (case side2 => exact HC1.out); rintro e w45 ⟨rfl, hb⟩; have n0_ := pxs HB hb; clear HB; have HB := n0_; clear n0_; (try clear hb); (try clear hb2); (try clear hk); (try clear hi)))
   repeat (go_quiet (first | (go_at_call 29; (with_reducible refine (caulkerlaw03_edits.calls k  true _ A3.out).mono ?_); rintro e w44 ⟨rfl, hb⟩; have n0_ := pxs HB hb; clear HB; have HB := n0_; clear n0_; (try clear hb); (try clear hb2); (try clear hk); (try clear hi)) | (go_at_call 30; (with_reducible refine (caulkerlaw03_small.calls k a0 _ _ l1 false _ ?side1 ?side2 A5.out).mono ?_); (case side1 => exact pxc HR1 HB); (case side2 => exact HC1.out); rintro e w45 ⟨rfl, hb⟩; have n0_ := pxs HB hb; clear HB; have HB := n0_; clear n0_; (try clear hb); (try clear hb2); (try clear hk); (try clear hi))); try go_wp2_with (first | (go_at_call 29; (with_reducible refine (caulkerlaw03_edits.calls k  true _ A3.out).mono ?_); rintro e w44 ⟨rfl, hb⟩; have n0_ := pxs HB hb; clear HB; have HB := n0_; clear n0_; (try clear hb); (try clear hb2); (try clear hk); (try clear hi)) | (go_at_call 30; (with_reducible refine (caulkerlaw03_small.calls k a0 _ _ l1 false _ ?side1 ?side2 A5.out).mono ?_); (case side1 => exact pxc HR1 HB); (case side2 => exact HC1.out); rintro e w45 ⟨rfl, hb⟩; have n0_ := pxs HB hb; clear HB; have HB := n0_; clear n0_; (try clear hb); (try clear hb2); (try clear hk); (try clear hi))))
   go_ret
   exact ⟨by first | rfl | (simp [errW_none, errW_some] <;> rfl) | (simp [*, errW_none, errW_some] <;> rfl), pxb HB⟩
 ·replace c4 := Bool.eq_false_iff.mpr c4
  subst c4
  have H1 : (some false) = some r := by rw [if_neg (show ¬ (false = true) by decide)] at H; exact H
  clear H
  have H := H1
  clear H1
  obtain rfl := Option.some.inj H
  go_enter Try.func10, Try.ntmps10
  go_wp2_with (first | (go_at_call 29; (with_reducible refine (caulkerlaw03_edits.calls k  false _ A3.out).mono ?_); rintro e w46 ⟨rfl, hb⟩; have n0_ := pxs HB hb; clear HB; have HB := n0_; clear n0_; (try clear hb); (try clear hb2); (try clear hk); (try clear hi)))
  repeat (go_quiet (first | (go_at_call 29; (with_reducible refine (caulkerlaw03_edits.calls k  false _ A3.out).mono ?_); rintro e w46 ⟨rfl, hb⟩; have n0_ := pxs HB hb; clear HB; have HB := n0_; clear n0_; (try clear hb); (try clear hb2); (try clear hk); (try clear hi))); try go_wp2_with (first | (go_at_call 29; (with_reducible refine (caulkerlaw03_edits.calls k  false _ A3.out).mono ?_); rintro e w46 ⟨rfl, hb⟩; have n0_ := pxs HB hb; clear HB; have HB := n0_; clear n0_; (try clear hb); (try clear hb2); (try clear hk); (try clear hi))))
  go_ret
  exact ⟨by first | rfl | (simp [errW_none, errW_some] <;> rfl) | (simp [*, errW_none, errW_some] <;> rfl), pxb HB⟩

/-- THE ONE PURE STATEMENT of caulkerlaw03_EditInverts. -/
def caulkerlaw03_EditInverts.Pure : Prop := ∀ (a0 : ByteArray) (l1 : List (S60)), a0.size ≤ 140737488351232 → l1.length ≤ 9223372036854775807 → l1.length * 32 ≤ 140737488351232 → (∀ y ∈ l1, good60 y) → ∃ k, caulkerlaw03_EditInverts.f k a0 l1 = some true

end Go.Proofs.Ytfnemjejfccecaa.X
