/- What the program's functions answer, as Lean functions, and that each call does just that; no condition. Written by a program (px.py) out of the translation. -/
import Derived.Test.YtfnemjejfccecaaX0
import Derived.Test.YtfnemjejfccecaaXE60
import Derived.Test.YtfnemjejfccecaaX36
import Derived.Test.YtfnemjejfccecaaX29
import Derived.Test.YtfnemjejfccecaaX30
import Derived.Test.YtfnemjejfccecaaX32
import Derived.Test.YtfnemjejfccecaaX37
namespace Go.Proofs.Ytfnemjejfccecaa.X
open Go.RowKit Go.Proofs.YtfnemjejfccecaaW.PrintWords Go.Proofs.YtfnemjejfccecaaW.PrintLast Go.Proofs.YtfnemjejfccecaaW.PrintMore
attribute [local go_sem] max2_int min2_int max_two min_two max_three min_three max_four min_four   -- for this text's walks alone
set_option linter.unusedVariables false
set_option linter.unusedSimpArgs false

attribute [local go_sem high] eqA60
/-! ### caulkerlaw03_EditTidies: function 12 -/
mutual
def caulkerlaw03_EditTidies.j0 : Nat → ByteArray → List (S60) → Bool → Option (Bool)
 | 0, _, _, _ => none
 | k + 1, x0, x7, x75 => if x75 = true then (some false) else (caulkerlaw03_EditTidies.l0 k x0 x7 x7 (x7.length : Int) 0)
def caulkerlaw03_EditTidies.l0 : Nat → ByteArray → List (S60) → List (S60) → Int → Int → Option (Bool)
 | 0, _, _, _, _, _ => none
 | k + 1, x0, x7, x76, x77, x78 => if x78 < x77 then (if 0 ≤ x78 then (if x78 < (x76.length : Int) then (if 0 ≤ ((rd_T60 x76 x78).f0.f0) then (if ((rd_T60 x76 x78).f0.f0) ≤ ((rd_T60 x76 x78).f0.f1) then (if ((rd_T60 x76 x78).f0.f1) ≤ (x0.size : Int) then (if (x0.extract (((rd_T60 x76 x78).f0.f0) : Int).toNat (((rd_T60 x76 x78).f0.f1) : Int).toNat).toList = ([] : List UInt8) then (if ((rd_T60 x76 x78).f1).toList = ([] : List UInt8) then (caulkerlaw03_EditTidies.j2 k x0 x7 (x0.extract (((rd_T60 x76 x78).f0.f0) : Int).toNat (((rd_T60 x76 x78).f0.f1) : Int).toNat) x76 x77 x78 true ((rd_T60 x76 x78).f0.f0) ((rd_T60 x76 x78).f0.f1) ((rd_T60 x76 x78).f1)) else (if x78 > 0 then (if 0 ≤ (wrap64 (x78 - 1)) then (if (wrap64 (x78 - 1)) < (x7.length : Int) then (caulkerlaw03_EditTidies.j2 k x0 x7 (x0.extract (((rd_T60 x76 x78).f0.f0) : Int).toNat (((rd_T60 x76 x78).f0.f1) : Int).toNat) x76 x77 x78 (decide (((rd_T60 x7 (wrap64 (x78 - 1))).f0.f1) ≥ ((rd_T60 x76 x78).f0.f0))) ((rd_T60 x76 x78).f0.f0) ((rd_T60 x76 x78).f0.f1) ((rd_T60 x76 x78).f1)) else (none)) else (none)) else (caulkerlaw03_EditTidies.j2 k x0 x7 (x0.extract (((rd_T60 x76 x78).f0.f0) : Int).toNat (((rd_T60 x76 x78).f0.f1) : Int).toNat) x76 x77 x78 false ((rd_T60 x76 x78).f0.f0) ((rd_T60 x76 x78).f0.f1) ((rd_T60 x76 x78).f1)))) else (if x78 > 0 then (if 0 ≤ (wrap64 (x78 - 1)) then (if (wrap64 (x78 - 1)) < (x7.length : Int) then (caulkerlaw03_EditTidies.j2 k x0 x7 (x0.extract (((rd_T60 x76 x78).f0.f0) : Int).toNat (((rd_T60 x76 x78).f0.f1) : Int).toNat) x76 x77 x78 (decide (((rd_T60 x7 (wrap64 (x78 - 1))).f0.f1) ≥ ((rd_T60 x76 x78).f0.f0))) ((rd_T60 x76 x78).f0.f0) ((rd_T60 x76 x78).f0.f1) ((rd_T60 x76 x78).f1)) else (none)) else (none)) else (caulkerlaw03_EditTidies.j2 k x0 x7 (x0.extract (((rd_T60 x76 x78).f0.f0) : Int).toNat (((rd_T60 x76 x78).f0.f1) : Int).toNat) x76 x77 x78 false ((rd_T60 x76 x78).f0.f0) ((rd_T60 x76 x78).f0.f1) ((rd_T60 x76 x78).f1)))) else (none)) else (none)) else (none)) else (none)) else (none)) else ((edit_Tidy.f k x0 x7).bind fun bt424 => (if bt424.2 = 0 then (caulkerlaw03_EditTidies.j3 k x7 bt424.1 ((bt424.1.length : Int) != (x7.length : Int))) else (caulkerlaw03_EditTidies.j3 k x7 bt424.1 true)))
def caulkerlaw03_EditTidies.j2 : Nat → ByteArray → List (S60) → ByteArray → List (S60) → Int → Int → Bool → Int → Int → ByteArray → Option (Bool)
 | 0, _, _, _, _, _, _, _, _, _, _ => none
 | k + 1, x0, x7, x13, x76, x77, x78, x114, x422000, x422001, x422002 => if x114 = true then (some false) else (if x13.toList = ([] : List UInt8) then (caulkerlaw03_EditTidies.l0 k x0 x7 x76 x77 (wrap64 (x78 + 1))) else (if x422002.toList = ([] : List UInt8) then (caulkerlaw03_EditTidies.l0 k x0 x7 x76 x77 (wrap64 (x78 + 1))) else (if 0 < (x13.size : Int) then (if 0 < (x422002.size : Int) then (if (bt x13 0) = (bt x422002 0) then (some false) else (if 0 ≤ (wrap64 ((x13.size : Int) - 1)) then (if (wrap64 ((x13.size : Int) - 1)) < (x13.size : Int) then (if 0 ≤ (wrap64 ((x422002.size : Int) - 1)) then (if (wrap64 ((x422002.size : Int) - 1)) < (x422002.size : Int) then (if (bt x13 (wrap64 ((x13.size : Int) - 1))) = (bt x422002 (wrap64 ((x422002.size : Int) - 1))) then (some false) else (caulkerlaw03_EditTidies.l0 k x0 x7 x76 x77 (wrap64 (x78 + 1)))) else (none)) else (none)) else (none)) else (none))) else (none)) else (none))))
def caulkerlaw03_EditTidies.j3 : Nat → List (S60) → List (S60) → Bool → Option (Bool)
 | 0, _, _, _ => none
 | k + 1, x7, x14, x160 => if x160 = true then (some false) else (caulkerlaw03_EditTidies.l1 k x7 x14 (x14.length : Int) 0)
def caulkerlaw03_EditTidies.l1 : Nat → List (S60) → List (S60) → Int → Int → Option (Bool)
 | 0, _, _, _, _ => none
 | k + 1, x7, x14, x162, x163 => if x163 < x162 then (if 0 ≤ x163 then (if x163 < (x14.length : Int) then (if x163 < (x7.length : Int) then (if ((!(((rd_T60 x14 x163).f0.f0) == ((rd_T60 x7 x163).f0.f0)) || (!(((rd_T60 x14 x163).f0.f1) == ((rd_T60 x7 x163).f0.f1)))) || (!((((rd_T60 x14 x163).f1).toList) == (((rd_T60 x7 x163).f1).toList)))) = true then (some false) else (caulkerlaw03_EditTidies.l1 k x7 x14 x162 (wrap64 (x163 + 1)))) else (none)) else (none)) else (none)) else (some true)
end
def caulkerlaw03_EditTidies.f (k : Nat) (a0 : ByteArray) (l1 : List (S60)) : Option (Bool) := (caulkerlaw03_edits.f k).bind fun t408 => (if t408 = true then ((caulkerlaw03_small.f k a0 l1).bind fun t409 => (if t409 = true then ((caulkerref03_Apply.f k a0 l1).bind fun bt410 => ((edit_Tidy.f k a0 l1).bind fun bt412 => (if bt410.2 = 0 then ((caulkerref03_Apply.f k a0 bt412.1).bind fun bt416 => (if bt412.2 = 0 then (if bt416.2 = 0 then (if bt416.1.toList = bt410.1.toList then ((edit_Cost.f k bt412.1).bind fun t418 => ((edit_Cost.f k l1).bind fun t419 => (if t418 > t419 then (caulkerlaw03_EditTidies.j0 k a0 bt412.1 true) else (caulkerlaw03_EditTidies.j0 k a0 bt412.1 (decide ((bt412.1.length : Int) > (l1.length : Int))))))) else (caulkerlaw03_EditTidies.j0 k a0 bt412.1 true)) else (caulkerlaw03_EditTidies.j0 k a0 bt412.1 true)) else (caulkerlaw03_EditTidies.j0 k a0 bt412.1 true))) else (if bt412.2 = bt410.2 then (some ((bt412.1.length : Int) == 0)) else (some false))))) else (some true))) else (some false))
theorem caulkerlaw03_EditTidies.mono_l : ∀ k, (∀ y0 y1 y2, LeO (caulkerlaw03_EditTidies.j0 k y0 y1 y2) (caulkerlaw03_EditTidies.j0 (k + 1) y0 y1 y2)) ∧ (∀ y0 y1 y2 y3 y4, LeO (caulkerlaw03_EditTidies.l0 k y0 y1 y2 y3 y4) (caulkerlaw03_EditTidies.l0 (k + 1) y0 y1 y2 y3 y4)) ∧ (∀ y0 y1 y2 y3 y4 y5 y6 y7 y8 y9, LeO (caulkerlaw03_EditTidies.j2 k y0 y1 y2 y3 y4 y5 y6 y7 y8 y9) (caulkerlaw03_EditTidies.j2 (k + 1) y0 y1 y2 y3 y4 y5 y6 y7 y8 y9)) ∧ (∀ y0 y1 y2, LeO (caulkerlaw03_EditTidies.j3 k y0 y1 y2) (caulkerlaw03_EditTidies.j3 (k + 1) y0 y1 y2)) ∧ (∀ y0 y1 y2 y3, LeO (caulkerlaw03_EditTidies.l1 k y0 y1 y2 y3) (caulkerlaw03_EditTidies.l1 (k + 1) y0 y1 y2 y3))
 | 0 => ⟨fun _ _ _ r h => by simp [caulkerlaw03_EditTidies.j0] at h, fun _ _ _ _ _ r h => by simp [caulkerlaw03_EditTidies.l0] at h, fun _ _ _ _ _ _ _ _ _ _ r h => by simp [caulkerlaw03_EditTidies.j2] at h, fun _ _ _ r h => by simp [caulkerlaw03_EditTidies.j3] at h, fun _ _ _ _ r h => by simp [caulkerlaw03_EditTidies.l1] at h⟩
 | k + 1 => by
  obtain ⟨ih0, ih1, ih2, ih3, ih4⟩ := caulkerlaw03_EditTidies.mono_l k
  refine ⟨?_, ?_, ?_, ?_, ?_⟩
  ·intro y0 y1 y2
   unfold caulkerlaw03_EditTidies.j0
   repeat' first
   | (with_reducible exact ih0 _ _ _)
   | (with_reducible exact ih1 _ _ _ _ _)
   | (with_reducible exact ih2 _ _ _ _ _ _ _ _ _ _)
   | (with_reducible exact ih3 _ _ _)
   | (with_reducible exact ih4 _ _ _ _)
   | (with_reducible exact caulkerlaw03_edits.mono _)
   | (with_reducible exact caulkerlaw03_small.mono _ _ _)
   | (with_reducible exact caulkerref03_Apply.mono _ _ _)
   | (with_reducible exact edit_Cost.mono _ _)
   | (with_reducible exact edit_Tidy.mono _ _ _)
   | (with_reducible exact LeO.refl _)
   | (with_reducible exact LeO.none _)
   | (with_reducible refine LeO.ite ?_ ?_)
   | (with_reducible refine LeO.bind ?_ (fun _ => ?_))
   | exact ih0 _ _ _
   | exact ih1 _ _ _ _ _
   | exact ih2 _ _ _ _ _ _ _ _ _ _
   | exact ih3 _ _ _
   | exact ih4 _ _ _ _
   | exact caulkerlaw03_edits.mono _
   | exact caulkerlaw03_small.mono _ _ _
   | exact caulkerref03_Apply.mono _ _ _
   | exact edit_Cost.mono _ _
   | exact edit_Tidy.mono _ _ _
   | exact LeO.none _
   | refine LeO.ite ?_ ?_
   | refine LeO.bind ?_ (fun _ => ?_)
  ·intro y0 y1 y2 y3 y4
   unfold caulkerlaw03_EditTidies.l0
   repeat' first
   | (with_reducible exact ih0 _ _ _)
   | (with_reducible exact ih1 _ _ _ _ _)
   | (with_reducible exact ih2 _ _ _ _ _ _ _ _ _ _)
   | (with_reducible exact ih3 _ _ _)
   | (with_reducible exact ih4 _ _ _ _)
   | (with_reducible exact caulkerlaw03_edits.mono _)
   | (with_reducible exact caulkerlaw03_small.mono _ _ _)
   | (with_reducible exact caulkerref03_Apply.mono _ _ _)
   | (with_reducible exact edit_Cost.mono _ _)
   | (with_reducible exact edit_Tidy.mono _ _ _)
   | (with_reducible exact LeO.refl _)
   | (with_reducible exact LeO.none _)
   | (with_reducible refine LeO.ite ?_ ?_)
   | (with_reducible refine LeO.bind ?_ (fun _ => ?_))
   | exact ih0 _ _ _
   | exact ih1 _ _ _ _ _
   | exact ih2 _ _ _ _ _ _ _ _ _ _
   | exact ih3 _ _ _
   | exact ih4 _ _ _ _
   | exact caulkerlaw03_edits.mono _
   | exact caulkerlaw03_small.mono _ _ _
   | exact caulkerref03_Apply.mono _ _ _
   | exact edit_Cost.mono _ _
   | exact edit_Tidy.mono _ _ _
   | exact LeO.none _
   | refine LeO.ite ?_ ?_
   | refine LeO.bind ?_ (fun _ => ?_)
  ·intro y0 y1 y2 y3 y4 y5 y6 y7 y8 y9
   unfold caulkerlaw03_EditTidies.j2
   repeat' first
   | (with_reducible exact ih0 _ _ _)
   | (with_reducible exact ih1 _ _ _ _ _)
   | (with_reducible exact ih2 _ _ _ _ _ _ _ _ _ _)
   | (with_reducible exact ih3 _ _ _)
   | (with_reducible exact ih4 _ _ _ _)
   | (with_reducible exact caulkerlaw03_edits.mono _)
   | (with_reducible exact caulkerlaw03_small.mono _ _ _)
   | (with_reducible exact caulkerref03_Apply.mono _ _ _)
   | (with_reducible exact edit_Cost.mono _ _)
   | (with_reducible exact edit_Tidy.mono _ _ _)
   | (with_reducible exact LeO.refl _)
   | (with_reducible exact LeO.none _)
   | (with_reducible refine LeO.ite ?_ ?_)
   | (with_reducible refine LeO.bind ?_ (fun _ => ?_))
   | exact ih0 _ _ _
   | exact ih1 _ _ _ _ _
   | exact ih2 _ _ _ _ _ _ _ _ _ _
   | exact ih3 _ _ _
   | exact ih4 _ _ _ _
   | exact caulkerlaw03_edits.mono _
   | exact caulkerlaw03_small.mono _ _ _
   | exact caulkerref03_Apply.mono _ _ _
   | exact edit_Cost.mono _ _
   | exact edit_Tidy.mono _ _ _
   | exact LeO.none _
   | refine LeO.ite ?_ ?_
   | refine LeO.bind ?_ (fun _ => ?_)
  ·intro y0 y1 y2
   unfold caulkerlaw03_EditTidies.j3
   repeat' first
   | (with_reducible exact ih0 _ _ _)
   | (with_reducible exact ih1 _ _ _ _ _)
   | (with_reducible exact ih2 _ _ _ _ _ _ _ _ _ _)
   | (with_reducible exact ih3 _ _ _)
   | (with_reducible exact ih4 _ _ _ _)
   | (with_reducible exact caulkerlaw03_edits.mono _)
   | (with_reducible exact caulkerlaw03_small.mono _ _ _)
   | (with_reducible exact caulkerref03_Apply.mono _ _ _)
   | (with_reducible exact edit_Cost.mono _ _)
   | (with_reducible exact edit_Tidy.mono _ _ _)
   | (with_reducible exact LeO.refl _)
   | (with_reducible exact LeO.none _)
   | (with_reducible refine LeO.ite ?_ ?_)
   | (with_reducible refine LeO.bind ?_ (fun _ => ?_))
   | exact ih0 _ _ _
   | exact ih1 _ _ _ _ _
   | exact ih2 _ _ _ _ _ _ _ _ _ _
   | exact ih3 _ _ _
   | exact ih4 _ _ _ _
   | exact caulkerlaw03_edits.mono _
   | exact caulkerlaw03_small.mono _ _ _
   | exact caulkerref03_Apply.mono _ _ _
   | exact edit_Cost.mono _ _
   | exact edit_Tidy.mono _ _ _
   | exact LeO.none _
   | refine LeO.ite ?_ ?_
   | refine LeO.bind ?_ (fun _ => ?_)
  ·intro y0 y1 y2 y3
   unfold caulkerlaw03_EditTidies.l1
   repeat' first
   | (with_reducible exact ih0 _ _ _)
   | (with_reducible exact ih1 _ _ _ _ _)
   | (with_reducible exact ih2 _ _ _ _ _ _ _ _ _ _)
   | (with_reducible exact ih3 _ _ _)
   | (with_reducible exact ih4 _ _ _ _)
   | (with_reducible exact caulkerlaw03_edits.mono _)
   | (with_reducible exact caulkerlaw03_small.mono _ _ _)
   | (with_reducible exact caulkerref03_Apply.mono _ _ _)
   | (with_reducible exact edit_Cost.mono _ _)
   | (with_reducible exact edit_Tidy.mono _ _ _)
   | (with_reducible exact LeO.refl _)
   | (with_reducible exact LeO.none _)
   | (with_reducible refine LeO.ite ?_ ?_)
   | (with_reducible refine LeO.bind ?_ (fun _ => ?_))
   | exact ih0 _ _ _
   | exact ih1 _ _ _ _ _
   | exact ih2 _ _ _ _ _ _ _ _ _ _
   | exact ih3 _ _ _
   | exact ih4 _ _ _ _
   | exact caulkerlaw03_edits.mono _
   | exact caulkerlaw03_small.mono _ _ _
   | exact caulkerref03_Apply.mono _ _ _
   | exact edit_Cost.mono _ _
   | exact edit_Tidy.mono _ _ _
   | exact LeO.none _
   | refine LeO.ite ?_ ?_
   | refine LeO.bind ?_ (fun _ => ?_)
theorem caulkerlaw03_EditTidies.mono : ∀ a0 a1 k, LeO (caulkerlaw03_EditTidies.f k a0 a1) (caulkerlaw03_EditTidies.f (k + 1) a0 a1) := by
 intro a0 a1 k
 obtain ⟨ih0, ih1, ih2, ih3, ih4⟩ := caulkerlaw03_EditTidies.mono_l k
 unfold caulkerlaw03_EditTidies.f
 repeat' first
   | (with_reducible exact ih0 _ _ _)
   | (with_reducible exact ih1 _ _ _ _ _)
   | (with_reducible exact ih2 _ _ _ _ _ _ _ _ _ _)
   | (with_reducible exact ih3 _ _ _)
   | (with_reducible exact ih4 _ _ _ _)
   | (with_reducible exact caulkerlaw03_edits.mono _)
   | (with_reducible exact caulkerlaw03_small.mono _ _ _)
   | (with_reducible exact caulkerref03_Apply.mono _ _ _)
   | (with_reducible exact edit_Cost.mono _ _)
   | (with_reducible exact edit_Tidy.mono _ _ _)
   | (with_reducible exact LeO.refl _)
   | (with_reducible exact LeO.none _)
   | (with_reducible refine LeO.ite ?_ ?_)
   | (with_reducible refine LeO.bind ?_ (fun _ => ?_))
   | exact ih0 _ _ _
   | exact ih1 _ _ _ _ _
   | exact ih2 _ _ _ _ _ _ _ _ _ _
   | exact ih3 _ _ _
   | exact ih4 _ _ _ _
   | exact caulkerlaw03_edits.mono _
   | exact caulkerlaw03_small.mono _ _ _
   | exact caulkerref03_Apply.mono _ _ _
   | exact edit_Cost.mono _ _
   | exact edit_Tidy.mono _ _ _
   | exact LeO.none _
   | refine LeO.ite ?_ ?_
   | refine LeO.bind ?_ (fun _ => ?_)
set_option maxHeartbeats 8000000 in
set_option maxRecDepth 100000 in
theorem caulkerlaw03_EditTidies.calls (k : Nat) (a0 : ByteArray) (A1 : Option Addr) (c1 : Nat) (l1 : List (S60)) (r : Bool) (w : World) (hr1 : Kd.C k60 w A1 l1.length l1) (hc1 : l1.length ≤ c1) (h : caulkerlaw03_EditTidies.f k a0 l1 = some r) :
  Calls Try.prog 12 #[.string a0, .slice A1 l1.length c1] w fun e w' => e = .returned (.bool r) ∧ Below w.heap.size w w' := by
 have hu60 := Try.underlying60
 have HR1 := Aside0.mk hr1
 have HC1 := Aside0.mk hc1
 clear hr1 hc1
 have HB := Aside0.mk (Below.refl w.heap.size w)
 have H : ((caulkerlaw03_edits.f k).bind fun t408 => (if t408 = true then ((caulkerlaw03_small.f k a0 l1).bind fun t409 => (if t409 = true then ((caulkerref03_Apply.f k a0 l1).bind fun bt410 => ((edit_Tidy.f k a0 l1).bind fun bt412 => (if bt410.2 = 0 then ((caulkerref03_Apply.f k a0 bt412.1).bind fun bt416 => (if bt412.2 = 0 then (if bt416.2 = 0 then (if bt416.1.toList = bt410.1.toList then ((edit_Cost.f k bt412.1).bind fun t418 => ((edit_Cost.f k l1).bind fun t419 => (if t418 > t419 then (caulkerlaw03_EditTidies.j0 k a0 bt412.1 true) else (caulkerlaw03_EditTidies.j0 k a0 bt412.1 (decide ((bt412.1.length : Int) > (l1.length : Int))))))) else (caulkerlaw03_EditTidies.j0 k a0 bt412.1 true)) else (caulkerlaw03_EditTidies.j0 k a0 bt412.1 true)) else (caulkerlaw03_EditTidies.j0 k a0 bt412.1 true))) else (if bt412.2 = bt410.2 then (some ((bt412.1.length : Int) == 0)) else (some false))))) else (some true))) else (some false))) = some r := h
 clear h
 replace H := Option.bind_eq_some_iff.mp H
 obtain ⟨t408, A30, H⟩ := H
 replace H : (if t408 = true then ((caulkerlaw03_small.f k a0 l1).bind fun t409 => (if t409 = true then ((caulkerref03_Apply.f k a0 l1).bind fun bt410 => ((edit_Tidy.f k a0 l1).bind fun bt412 => (if bt410.2 = 0 then ((caulkerref03_Apply.f k a0 bt412.1).bind fun bt416 => (if bt412.2 = 0 then (if bt416.2 = 0 then (if bt416.1.toList = bt410.1.toList then ((edit_Cost.f k bt412.1).bind fun t418 => ((edit_Cost.f k l1).bind fun t419 => (if t418 > t419 then (caulkerlaw03_EditTidies.j0 k a0 bt412.1 true) else (caulkerlaw03_EditTidies.j0 k a0 bt412.1 (decide ((bt412.1.length : Int) > (l1.length : Int))))))) else (caulkerlaw03_EditTidies.j0 k a0 bt412.1 true)) else (caulkerlaw03_EditTidies.j0 k a0 bt412.1 true)) else (caulkerlaw03_EditTidies.j0 k a0 bt412.1 true))) else (if bt412.2 = bt410.2 then (some ((bt412.1.length : Int) == 0)) else (some false))))) else (some true))) else (some false)) = some r := H
 have A3 := Aside0.mk A30
 clear A30
 by_cases c4 : t408 = true
 ·subst c4
  have H1 : ((caulkerlaw03_small.f k a0 l1).bind fun t409 => (if t409 = true then ((caulkerref03_Apply.f k a0 l1).bind fun bt410 => ((edit_Tidy.f k a0 l1).bind fun bt412 => (if bt410.2 = 0 then ((caulkerref03_Apply.f k a0 bt412.1).bind fun bt416 => (if bt412.2 = 0 then (if bt416.2 = 0 then (if bt416.1.toList = bt410.1.toList then ((edit_Cost.f k bt412.1).bind fun t418 => ((edit_Cost.f k l1).bind fun t419 => (if t418 > t419 then (caulkerlaw03_EditTidies.j0 k a0 bt412.1 true) else (caulkerlaw03_EditTidies.j0 k a0 bt412.1 (decide ((bt412.1.length : Int) > (l1.length : Int))))))) else (caulkerlaw03_EditTidies.j0 k a0 bt412.1 true)) else (caulkerlaw03_EditTidies.j0 k a0 bt412.1 true)) else (caulkerlaw03_EditTidies.j0 k a0 bt412.1 true))) else (if bt412.2 = bt410.2 then (some ((bt412.1.length : Int) == 0)) else (some false))))) else (some true))) = some r := by rw [if_pos rfl] at H; exact H
  clear H
  have H := H1
  clear H1
  replace H := Option.bind_eq_some_iff.mp H
  obtain ⟨t409, A50, H⟩ := H
  replace H : (if t409 = true then ((caulkerref03_Apply.f k a0 l1).bind fun bt410 => ((edit_Tidy.f k a0 l1).bind fun bt412 => (if bt410.2 = 0 then ((caulkerref03_Apply.f k a0 bt412.1).bind fun bt416 => (if bt412.2 = 0 then (if bt416.2 = 0 then (if bt416.1.toList = bt410.1.toList then ((edit_Cost.f k bt412.1).bind fun t418 => ((edit_Cost.f k l1).bind fun t419 => (if t418 > t419 then (caulkerlaw03_EditTidies.j0 k a0 bt412.1 true) else (caulkerlaw03_EditTidies.j0 k a0 bt412.1 (decide ((bt412.1.length : Int) > (l1.length : Int))))))) else (caulkerlaw03_EditTidies.j0 k a0 bt412.1 true)) else (caulkerlaw03_EditTidies.j0 k a0 bt412.1 true)) else (caulkerlaw03_EditTidies.j0 k a0 bt412.1 true))) else (if bt412.2 = bt410.2 then (some ((bt412.1.length : Int) == 0)) else (some false))))) else (some true)) = some r := H
  have A5 := Aside0.mk A50
  clear A50
  by_cases c6 : t409 = true
  ·subst c6
   have H1 : ((caulkerref03_Apply.f k a0 l1).bind fun bt410 => ((edit_Tidy.f k a0 l1).bind fun bt412 => (if bt410.2 = 0 then ((caulkerref03_Apply.f k a0 bt412.1).bind fun bt416 => (if bt412.2 = 0 then (if bt416.2 = 0 then (if bt416.1.toList = bt410.1.toList then ((edit_Cost.f k bt412.1).bind fun t418 => ((edit_Cost.f k l1).bind fun t419 => (if t418 > t419 then (caulkerlaw03_EditTidies.j0 k a0 bt412.1 true) else (caulkerlaw03_EditTidies.j0 k a0 bt412.1 (decide ((bt412.1.length : Int) > (l1.length : Int))))))) else (caulkerlaw03_EditTidies.j0 k a0 bt412.1 true)) else (caulkerlaw03_EditTidies.j0 k a0 bt412.1 true)) else (caulkerlaw03_EditTidies.j0 k a0 bt412.1 true))) else (if bt412.2 = bt410.2 then (some ((bt412.1.length : Int) == 0)) else (some false))))) = some r := by rw [if_pos rfl] at H; exact H
   clear H
   have H := H1
   clear H1
   replace H := Option.bind_eq_some_iff.mp H
   obtain ⟨⟨t410, t411⟩, A70, H⟩ := H
   replace H : ((edit_Tidy.f k a0 l1).bind fun bt412 => (if t411 = 0 then ((caulkerref03_Apply.f k a0 bt412.1).bind fun bt416 => (if bt412.2 = 0 then (if bt416.2 = 0 then (if bt416.1.toList = t410.toList then ((edit_Cost.f k bt412.1).bind fun t418 => ((edit_Cost.f k l1).bind fun t419 => (if t418 > t419 then (caulkerlaw03_EditTidies.j0 k a0 bt412.1 true) else (caulkerlaw03_EditTidies.j0 k a0 bt412.1 (decide ((bt412.1.length : Int) > (l1.length : Int))))))) else (caulkerlaw03_EditTidies.j0 k a0 bt412.1 true)) else (caulkerlaw03_EditTidies.j0 k a0 bt412.1 true)) else (caulkerlaw03_EditTidies.j0 k a0 bt412.1 true))) else (if bt412.2 = t411 then (some ((bt412.1.length : Int) == 0)) else (some false)))) = some r := H
   have A7 := Aside0.mk A70
   clear A70
   replace H := Option.bind_eq_some_iff.mp H
   obtain ⟨⟨t412, t413⟩, A80, H⟩ := H
   replace H : (if t411 = 0 then ((caulkerref03_Apply.f k a0 t412).bind fun bt416 => (if t413 = 0 then (if bt416.2 = 0 then (if bt416.1.toList = t410.toList then ((edit_Cost.f k t412).bind fun t418 => ((edit_Cost.f k l1).bind fun t419 => (if t418 > t419 then (caulkerlaw03_EditTidies.j0 k a0 t412 true) else (caulkerlaw03_EditTidies.j0 k a0 t412 (decide ((t412.length : Int) > (l1.length : Int))))))) else (caulkerlaw03_EditTidies.j0 k a0 t412 true)) else (caulkerlaw03_EditTidies.j0 k a0 t412 true)) else (caulkerlaw03_EditTidies.j0 k a0 t412 true))) else (if t413 = t411 then (some ((t412.length : Int) == 0)) else (some false))) = some r := H
   have A8 := Aside0.mk A80
   clear A80
   by_cases c9 : t411 = 0
   ·rw [if_pos c9] at H
    have c9b0 : (t411 == 0) = true := beq_iff_eq.mpr c9
    have c9b1 : (t411 != 0) = false := bne_eq_false_iff_eq.mpr c9
    clear c9
    replace H := Option.bind_eq_some_iff.mp H
    obtain ⟨⟨t416, t417⟩, A100, H⟩ := H
    replace H : (if t413 = 0 then (if t417 = 0 then (if t416.toList = t410.toList then ((edit_Cost.f k t412).bind fun t418 => ((edit_Cost.f k l1).bind fun t419 => (if t418 > t419 then (caulkerlaw03_EditTidies.j0 k a0 t412 true) else (caulkerlaw03_EditTidies.j0 k a0 t412 (decide ((t412.length : Int) > (l1.length : Int))))))) else (caulkerlaw03_EditTidies.j0 k a0 t412 true)) else (caulkerlaw03_EditTidies.j0 k a0 t412 true)) else (caulkerlaw03_EditTidies.j0 k a0 t412 true)) = some r := H
    have A10 := Aside0.mk A100
    clear A100
    have HC11 := Aside0.mk H
    clear H
    go_enter Try.func12, Try.ntmps12
    go_upto_region 10 with (first | (go_at_call 29; (with_reducible refine (caulkerlaw03_edits.calls k  true _ A3.out).mono ?_); rintro e w12 ⟨rfl, hb⟩; have n0_ := pxs HB hb; clear HB; have HB := n0_; clear n0_; (try clear hb); (try clear hb2); (try clear hk); (try clear hi)) | (go_at_call 30; (with_reducible refine (caulkerlaw03_small.calls k a0 _ _ l1 true _ ?side1 ?side2 A5.out).mono ?_); (case side1 => exact pxc HR1 HB); (case side2 => exact HC1.out); rintro e w13 ⟨rfl, hb⟩; have n0_ := pxs HB hb; clear HB; have HB := n0_; clear n0_; (try clear hb); (try clear hb2); (try clear hk); (try clear hi)) | (go_at_call 32; (with_reducible refine (caulkerref03_Apply.calls k a0 _ _ l1 t410 t411 _ ?side1 ?side2 A7.out).mono ?_); (case side1 => exact pxc HR1 HB); (case side2 => exact HC1.out); rintro e w14 ⟨rfl, hb⟩; have n0_ := pxs HB hb; clear HB; have HB := n0_; clear n0_; (try clear hb); (try clear hb2); (try clear hk); (try clear hi)) | (go_at_call 37; (with_reducible refine (edit_Tidy.calls k a0 _ _ l1 t412 t413 _ ?side1 ?side2 A8.out).mono ?_); (case side1 => exact pxc HR1 HB); (case side2 => exact HC1.out); rintro e w15 ⟨v414, rfl, ho0, hb⟩; have n0_ := Aside0.mk (Kd.R_lower ho0 (below_size (pxb HB))); have n1_ := pxs HB hb; clear HB; have HO415 := n0_; have HB := n1_; clear n0_ n1_; (try clear hb); (try clear hb2); (try clear hk); (try clear hi); (try clear ho0); obtain ⟨Ao16, co16, eo16⟩ := Kd.R_slice HO415.out; subst eo16) | (go_at_call 32; (with_reducible refine (caulkerref03_Apply.calls k a0 _ _ t412 t416 t417 _ ?side1 ?side2 A10.out).mono ?_); (case side1 => repeat (first | exact (Kd.R_reads' HO415.out).2.2 | (with_reducible refine Kd.C_alloc ?_ _) | (with_reducible refine Kd.C_drewN ?_ _) | (with_reducible refine Kd.C_drew ?_))); (case side2 => exact (Kd.R_reads' HO415.out).2.1); rintro e w17 ⟨rfl, hb⟩; have n0_ := Aside0.mk (Kd.R_below (pxr HO415) hb); have n1_ := pxs HB hb; clear HO415; clear HB; have HO415 := n0_; have HB := n1_; clear n0_ n1_; (try clear hb); (try clear hb2); (try clear hk); (try clear hi)))
    repeat (go_quiet (first | (go_at_call 29; (with_reducible refine (caulkerlaw03_edits.calls k  true _ A3.out).mono ?_); rintro e w12 ⟨rfl, hb⟩; have n0_ := pxs HB hb; clear HB; have HB := n0_; clear n0_; (try clear hb); (try clear hb2); (try clear hk); (try clear hi)) | (go_at_call 30; (with_reducible refine (caulkerlaw03_small.calls k a0 _ _ l1 true _ ?side1 ?side2 A5.out).mono ?_); (case side1 => exact pxc HR1 HB); (case side2 => exact HC1.out); rintro e w13 ⟨rfl, hb⟩; have n0_ := pxs HB hb; clear HB; have HB := n0_; clear n0_; (try clear hb); (try clear hb2); (try clear hk); (try clear hi)) | (go_at_call 32; (with_reducible refine (caulkerref03_Apply.calls k a0 _ _ l1 t410 t411 _ ?side1 ?side2 A7.out).mono ?_); (case side1 => exact pxc HR1 HB); (case side2 => exact HC1.out); rintro e w14 ⟨rfl, hb⟩; have n0_ := pxs HB hb; clear HB; have HB := n0_; clear n0_; (try clear hb); (try clear hb2); (try clear hk); (try clear hi)) | (go_at_call 37; (with_reducible refine (edit_Tidy.calls k a0 _ _ l1 t412 t413 _ ?side1 ?side2 A8.out).mono ?_); (case side1 => exact pxc HR1 HB); (case side2 => exact HC1.out); rintro e w15 ⟨v414, rfl, ho0, hb⟩; have n0_ := Aside0.mk (Kd.R_lower ho0 (below_size (pxb HB))); have n1_ := pxs HB hb; clear HB; have HO415 := n0_; have HB := n1_; clear n0_ n1_; (try clear hb); (try clear hb2); (try clear hk); (try clear hi); (try clear ho0); obtain ⟨Ao16, co16, eo16⟩ := Kd.R_slice HO415.out; subst eo16) | (go_at_call 32; (with_reducible refine (caulkerref03_Apply.calls k a0 _ _ t412 t416 t417 _ ?side1 ?side2 A10.out).mono ?_); (case side1 => repeat (first | exact (Kd.R_reads' HO415.out).2.2 | (with_reducible refine Kd.C_alloc ?_ _) | (with_reducible refine Kd.C_drewN ?_ _) | (with_reducible refine Kd.C_drew ?_))); (case side2 => exact (Kd.R_reads' HO415.out).2.1); rintro e w17 ⟨rfl, hb⟩; have n0_ := Aside0.mk (Kd.R_below (pxr HO415) hb); have n1_ := pxs HB hb; clear HO415; clear HB; have HO415 := n0_; have HB := n1_; clear n0_ n1_; (try clear hb); (try clear hb2); (try clear hk); (try clear hi))); go_upto_region 10 with (first | (go_at_call 29; (with_reducible refine (caulkerlaw03_edits.calls k  true _ A3.out).mono ?_); rintro e w12 ⟨rfl, hb⟩; have n0_ := pxs HB hb; clear HB; have HB := n0_; clear n0_; (try clear hb); (try clear hb2); (try clear hk); (try clear hi)) | (go_at_call 30; (with_reducible refine (caulkerlaw03_small.calls k a0 _ _ l1 true _ ?side1 ?side2 A5.out).mono ?_); (case side1 => exact pxc HR1 HB); (case side2 => exact HC1.out); rintro e w13 ⟨rfl, hb⟩; have n0_ := pxs HB hb; clear HB; have HB := n0_; clear n0_; (try clear hb); (try clear hb2); (try clear hk); (try clear hi)) | (go_at_call 32; (with_reducible refine (caulkerref03_Apply.calls k a0 _ _ l1 t410 t411 _ ?side1 ?side2 A7.out).mono ?_); (case side1 => exact pxc HR1 HB); (case side2 => exact HC1.out); rintro e w14 ⟨rfl, hb⟩; have n0_ := pxs HB hb; clear HB; have HB := n0_; clear n0_; (try clear hb); (try clear hb2); (try clear hk); (try clear hi)) | (go_at_call 37; (with_reducible refine (edit_Tidy.calls k a0 _ _ l1 t412 t413 _ ?side1 ?side2 A8.out).mono ?_); (case side1 => exact pxc HR1 HB); (case side2 => exact HC1.out); rintro e w15 ⟨v414, rfl, ho0, hb⟩; have n0_ := Aside0.mk (Kd.R_lower ho0 (below_size (pxb HB))); have n1_ := pxs HB hb; clear HB; have HO415 := n0_; have HB := n1_; clear n0_ n1_; (try clear hb); (try clear hb2); (try clear hk); (try clear hi); (try clear ho0); obtain ⟨Ao16, co16, eo16⟩ := Kd.R_slice HO415.out; subst eo16) | (go_at_call 32; (with_reducible refine (caulkerref03_Apply.calls k a0 _ _ t412 t416 t417 _ ?side1 ?side2 A10.out).mono ?_); (case side1 => repeat (first | exact (Kd.R_reads' HO415.out).2.2 | (with_reducible refine Kd.C_alloc ?_ _) | (with_reducible refine Kd.C_drewN ?_ _) | (with_reducible refine Kd.C_drew ?_))); (case side2 => exact (Kd.R_reads' HO415.out).2.1); rintro e w17 ⟨rfl, hb⟩; have n0_ := Aside0.mk (Kd.R_below (pxr HO415) hb); have n1_ := pxs HB hb; clear HO415; clear HB; have HO415 := n0_; have HB := n1_; clear n0_ n1_; (try clear hb); (try clear hb2); (try clear hk); (try clear hi))))
    (try simp only [Act.put, List.setIfInBounds_toArray, List.set_cons_zero, List.set_cons_succ])
    go_cut [75] (fun v75 wc => ∃ (kq : Nat) (x75_10 : Bool), v75 = .bool x75_10 ∧ Aside0 (caulkerlaw03_EditTidies.j0 kq a0 t412 x75_10 = some r) ∧ Aside0 (kq ≤ k) ∧ Aside0 (Kd.R k60 60 wc w.heap.size (fun _ => True) (.slice Ao16 t412.length co16) t412) ∧ Aside0 (Below w.heap.size w wc))
    case first =>
     have H := HC11.out
     clear HC11
     by_cases c18 : t413 = 0
     ·rw [if_pos c18] at H
      have c18b0 : (t413 == 0) = true := beq_iff_eq.mpr c18
      have c18b1 : (t413 != 0) = false := bne_eq_false_iff_eq.mpr c18
      clear c18
      (first | rw [c18b0] | (simp only [i64_w, i32_w]; rw [c18b0]) | skip)
      by_cases c19 : t417 = 0
      ·rw [if_pos c19] at H
       have c19b0 : (t417 == 0) = true := beq_iff_eq.mpr c19
       have c19b1 : (t417 != 0) = false := bne_eq_false_iff_eq.mpr c19
       clear c19
       by_cases c20 : t416.toList = t410.toList
       ·rw [if_pos c20] at H
        have c20b0 : (t416.toList == t410.toList) = true := beq_iff_eq.mpr c20
        have c20b1 : (t416.toList != t410.toList) = false := bne_eq_false_iff_eq.mpr c20
        clear c20
        replace H := Option.bind_eq_some_iff.mp H
        obtain ⟨t418, A210, H⟩ := H
        replace H : ((edit_Cost.f k l1).bind fun t419 => (if t418 > t419 then (caulkerlaw03_EditTidies.j0 k a0 t412 true) else (caulkerlaw03_EditTidies.j0 k a0 t412 (decide ((t412.length : Int) > (l1.length : Int)))))) = some r := H
        have A21 := Aside0.mk A210
        clear A210
        replace H := Option.bind_eq_some_iff.mp H
        obtain ⟨t419, A220, H⟩ := H
        replace H : (if t418 > t419 then (caulkerlaw03_EditTidies.j0 k a0 t412 true) else (caulkerlaw03_EditTidies.j0 k a0 t412 (decide ((t412.length : Int) > (l1.length : Int))))) = some r := H
        have A22 := Aside0.mk A220
        clear A220
        by_cases c23 : t418 > t419
        ·rw [if_pos c23] at H
         have c23b0 : decide (t419 < t418) = true := decide_eq_true c23
         clear c23
         have H' := Aside0.mk H
         clear H
         go_wp2_with (first | (go_at_call 36; (with_reducible refine (edit_Cost.calls k _ _ t412 t418 _ ?side1 ?side2 A21.out).mono ?_); (case side1 => repeat (first | exact (Kd.R_reads' HO415.out).2.2 | (with_reducible refine Kd.C_alloc ?_ _) | (with_reducible refine Kd.C_drewN ?_ _) | (with_reducible refine Kd.C_drew ?_))); (case side2 => exact (Kd.R_reads' HO415.out).2.1); rintro e w24 ⟨rfl, hb⟩; have n0_ := Aside0.mk (Kd.R_below (pxr HO415) hb); have n1_ := pxs HB hb; clear HO415; clear HB; have HO415 := n0_; have HB := n1_; clear n0_ n1_; (try clear hb); (try clear hb2); (try clear hk); (try clear hi)) | (go_at_call 36; (with_reducible refine (edit_Cost.calls k _ _ l1 t419 _ ?side1 ?side2 A22.out).mono ?_); (case side1 => exact pxc HR1 HB); (case side2 => exact HC1.out); rintro e w25 ⟨rfl, hb⟩; have n0_ := Aside0.mk (Kd.R_below (pxr HO415) hb); have n1_ := pxs HB hb; clear HO415; clear HB; have HO415 := n0_; have HB := n1_; clear n0_ n1_; (try clear hb); (try clear hb2); (try clear hk); (try clear hi)))
         repeat (go_quiet (first | (go_at_call 36; (with_reducible refine (edit_Cost.calls k _ _ t412 t418 _ ?side1 ?side2 A21.out).mono ?_); (case side1 => repeat (first | exact (Kd.R_reads' HO415.out).2.2 | (with_reducible refine Kd.C_alloc ?_ _) | (with_reducible refine Kd.C_drewN ?_ _) | (with_reducible refine Kd.C_drew ?_))); (case side2 => exact (Kd.R_reads' HO415.out).2.1); rintro e w24 ⟨rfl, hb⟩; have n0_ := Aside0.mk (Kd.R_below (pxr HO415) hb); have n1_ := pxs HB hb; clear HO415; clear HB; have HO415 := n0_; have HB := n1_; clear n0_ n1_; (try clear hb); (try clear hb2); (try clear hk); (try clear hi)) | (go_at_call 36; (with_reducible refine (edit_Cost.calls k _ _ l1 t419 _ ?side1 ?side2 A22.out).mono ?_); (case side1 => exact pxc HR1 HB); (case side2 => exact HC1.out); rintro e w25 ⟨rfl, hb⟩; have n0_ := Aside0.mk (Kd.R_below (pxr HO415) hb); have n1_ := pxs HB hb; clear HO415; clear HB; have HO415 := n0_; have HB := n1_; clear n0_ n1_; (try clear hb); (try clear hb2); (try clear hk); (try clear hi))); try go_wp2_with (first | (go_at_call 36; (with_reducible refine (edit_Cost.calls k _ _ t412 t418 _ ?side1 ?side2 A21.out).mono ?_); (case side1 => repeat (first | exact (Kd.R_reads' HO415.out).2.2 | (with_reducible refine Kd.C_alloc ?_ _) | (with_reducible refine Kd.C_drewN ?_ _) | (with_reducible refine Kd.C_drew ?_))); (case side2 => exact (Kd.R_reads' HO415.out).2.1); rintro e w24 ⟨rfl, hb⟩; have n0_ := Aside0.mk (Kd.R_below (pxr HO415) hb); have n1_ := pxs HB hb; clear HO415; clear HB; have HO415 := n0_; have HB := n1_; clear n0_ n1_; (try clear hb); (try clear hb2); (try clear hk); (try clear hi)) | (go_at_call 36; (with_reducible refine (edit_Cost.calls k _ _ l1 t419 _ ?side1 ?side2 A22.out).mono ?_); (case side1 => exact pxc HR1 HB); (case side2 => exact HC1.out); rintro e w25 ⟨rfl, hb⟩; have n0_ := Aside0.mk (Kd.R_below (pxr HO415) hb); have n1_ := pxs HB hb; clear HO415; clear HB; have HO415 := n0_; have HB := n1_; clear n0_ n1_; (try clear hb); (try clear hb2); (try clear hk); (try clear hi))))
         go_meet
         case rel => exact ⟨_, (true), (by first | rfl | (simp; done) | (simp [*]; done)), H', ⟨by first | omega | exact Nat.le_refl _⟩, ⟨pxr HO415⟩, ⟨pxb HB⟩⟩
        ·rw [if_neg c23] at H
         have c23b0 : decide (t419 < t418) = false := decide_eq_false c23
         clear c23
         have H' := Aside0.mk H
         clear H
         go_wp2_with (first | (go_at_call 36; (with_reducible refine (edit_Cost.calls k _ _ t412 t418 _ ?side1 ?side2 A21.out).mono ?_); (case side1 => repeat (first | exact (Kd.R_reads' HO415.out).2.2 | (with_reducible refine Kd.C_alloc ?_ _) | (with_reducible refine Kd.C_drewN ?_ _) | (with_reducible refine Kd.C_drew ?_))); (case side2 => exact (Kd.R_reads' HO415.out).2.1); rintro e w26 ⟨rfl, hb⟩; have n0_ := Aside0.mk (Kd.R_below (pxr HO415) hb); have n1_ := pxs HB hb; clear HO415; clear HB; have HO415 := n0_; have HB := n1_; clear n0_ n1_; (try clear hb); (try clear hb2); (try clear hk); (try clear hi)) | (go_at_call 36; (with_reducible refine (edit_Cost.calls k _ _ l1 t419 _ ?side1 ?side2 A22.out).mono ?_); (case side1 => exact pxc HR1 HB); (case side2 => exact HC1.out); rintro e w27 ⟨rfl, hb⟩; have n0_ := Aside0.mk (Kd.R_below (pxr HO415) hb); have n1_ := pxs HB hb; clear HO415; clear HB; have HO415 := n0_; have HB := n1_; clear n0_ n1_; (try clear hb); (try clear hb2); (try clear hk); (try clear hi)))
         repeat (go_quiet (first | (go_at_call 36; (with_reducible refine (edit_Cost.calls k _ _ t412 t418 _ ?side1 ?side2 A21.out).mono ?_); (case side1 => repeat (first | exact (Kd.R_reads' HO415.out).2.2 | (with_reducible refine Kd.C_alloc ?_ _) | (with_reducible refine Kd.C_drewN ?_ _) | (with_reducible refine Kd.C_drew ?_))); (case side2 => exact (Kd.R_reads' HO415.out).2.1); rintro e w26 ⟨rfl, hb⟩; have n0_ := Aside0.mk (Kd.R_below (pxr HO415) hb); have n1_ := pxs HB hb; clear HO415; clear HB; have HO415 := n0_; have HB := n1_; clear n0_ n1_; (try clear hb); (try clear hb2); (try clear hk); (try clear hi)) | (go_at_call 36; (with_reducible refine (edit_Cost.calls k _ _ l1 t419 _ ?side1 ?side2 A22.out).mono ?_); (case side1 => exact pxc HR1 HB); (case side2 => exact HC1.out); rintro e w27 ⟨rfl, hb⟩; have n0_ := Aside0.mk (Kd.R_below (pxr HO415) hb); have n1_ := pxs HB hb; clear HO415; clear HB; have HO415 := n0_; have HB := n1_; clear n0_ n1_; (try clear hb); (try clear hb2); (try clear hk); (try clear hi))); try go_wp2_with (first | (go_at_call 36; (with_reducible refine (edit_Cost.calls k _ _ t412 t418 _ ?side1 ?side2 A21.out).mono ?_); (case side1 => repeat (first | exact (Kd.R_reads' HO415.out).2.2 | (with_reducible refine Kd.C_alloc ?_ _) | (with_reducible refine Kd.C_drewN ?_ _) | (with_reducible refine Kd.C_drew ?_))); (case side2 => exact (Kd.R_reads' HO415.out).2.1); rintro e w26 ⟨rfl, hb⟩; have n0_ := Aside0.mk (Kd.R_below (pxr HO415) hb); have n1_ := pxs HB hb; clear HO415; clear HB; have HO415 := n0_; have HB := n1_; clear n0_ n1_; (try clear hb); (try clear hb2); (try clear hk); (try clear hi)) | (go_at_call 36; (with_reducible refine (edit_Cost.calls k _ _ l1 t419 _ ?side1 ?side2 A22.out).mono ?_); (case side1 => exact pxc HR1 HB); (case side2 => exact HC1.out); rintro e w27 ⟨rfl, hb⟩; have n0_ := Aside0.mk (Kd.R_below (pxr HO415) hb); have n1_ := pxs HB hb; clear HO415; clear HB; have HO415 := n0_; have HB := n1_; clear n0_ n1_; (try clear hb); (try clear hb2); (try clear hk); (try clear hi))))
         go_meet
         case rel => exact ⟨_, (decide ((t412.length : Int) > (l1.length : Int))), (by first | rfl | (simp; done) | (simp [*]; done)), H', ⟨by first | omega | exact Nat.le_refl _⟩, ⟨pxr HO415⟩, ⟨pxb HB⟩⟩
       ·rw [if_neg c20] at H
        have c20b0 : (t416.toList == t410.toList) = false := beq_eq_false_iff_ne.mpr c20
        have c20b1 : (t416.toList != t410.toList) = true := bne_iff_ne.mpr c20
        have H' := Aside0.mk H
        clear H
        go_wp2
        repeat (go_quiet (fail); try go_wp2)
        go_meet
        case rel => exact ⟨_, (true), (by first | rfl | (simp; done) | (simp [*]; done)), H', ⟨by first | omega | exact Nat.le_refl _⟩, ⟨pxr HO415⟩, ⟨pxb HB⟩⟩
      ·rw [if_neg c19] at H
       have c19b0 : (t417 == 0) = false := beq_eq_false_iff_ne.mpr c19
       have c19b1 : (t417 != 0) = true := bne_iff_ne.mpr c19
       have H' := Aside0.mk H
       clear H
       go_wp2
       repeat (go_quiet (fail); try go_wp2)
       go_meet
       case rel => exact ⟨_, (true), (by first | rfl | (simp; done) | (simp [*]; done)), H', ⟨by first | omega | exact Nat.le_refl _⟩, ⟨pxr HO415⟩, ⟨pxb HB⟩⟩
     ·rw [if_neg c18] at H
      have c18b0 : (t413 == 0) = false := beq_eq_false_iff_ne.mpr c18
      have c18b1 : (t413 != 0) = true := bne_iff_ne.mpr c18
      (first | rw [c18b0] | (simp only [i64_w, i32_w]; rw [c18b0]) | skip)
      have H' := Aside0.mk H
      clear H
      go_wp2
      repeat (go_quiet (fail); try go_wp2)
      go_meet
      case rel => exact ⟨_, (true), (by first | rfl | (simp; done) | (simp [*]; done)), H', ⟨by first | omega | exact Nat.le_refl _⟩, ⟨pxr HO415⟩, ⟨pxb HB⟩⟩
    case rest => as_aux_lemma =>
     clear HC11
     try clear c1
     try clear c2
     try clear p2
     try clear c4
     try clear c6
     try clear c9
     try clear c9b0
     try clear c9b1
     try clear c12
     try clear c18
     try clear c18b0
     try clear c18b1
     try clear c19
     try clear c19b0
     try clear c19b1
     try clear c20
     try clear c20b0
     try clear c20b1
     try clear c23
     try clear c23b0
     obtain ⟨kq, x75_10, rfl, HA, HJ10, HO_7, HB⟩ := hcut
     cases kq with
     | zero => exact absurd HA.out (by simp [caulkerlaw03_EditTidies.j0])
     | succ kj10 =>
      have H := HA.out
      clear HA
      simp only [caulkerlaw03_EditTidies.j0] at H
      by_cases c28 : x75_10 = true
      ·subst c28
       have H1 : (some false) = some r := by rw [if_pos rfl] at H; exact H
       clear H
       have H := H1
       clear H1
       obtain rfl := Option.some.inj H
       go_wp2
       repeat (go_quiet (fail); try go_wp2)
       go_ret
       exact ⟨by first | rfl | (simp [errW_none, errW_some] <;> rfl) | (simp [*, errW_none, errW_some] <;> rfl), pxb HB⟩
      ·replace c28 := Bool.eq_false_iff.mpr c28
       subst c28
       have H1 : (caulkerlaw03_EditTidies.l0 kj10 a0 t412 t412 (t412.length : Int) 0) = some r := by rw [if_neg (show ¬ (false = true) by decide)] at H; exact H
       clear H
       have H := H1
       clear H1
       have H' := Aside0.mk H
       clear H
       go_wp2
       repeat (go_quiet (fail); try go_wp2)
       go_loopg [78] kj10 (fun kq v78 w' => ∃ (x78_2 : Int), v78 = .int .i64 x78_2 ∧ Aside0 (caulkerlaw03_EditTidies.l0 kq a0 t412 t412 (t412.length : Int) x78_2 = some r) ∧ Aside0 (kq ≤ kj10) ∧ Aside0 (Kd.R k60 60 w' w.heap.size (fun _ => True) (.slice Ao16 t412.length co16) t412) ∧ Aside0 (Kd.R k60 60 w' w.heap.size (fun _ => True) (.slice Ao16 t412.length co16) t412) ∧ Aside0 (Below w.heap.size w w'))
       case atStart => exact ⟨(0), (by first | rfl | (simp; done) | (simp [*]; done)), H', ⟨Nat.le_refl _⟩, ⟨pxr HO_7⟩, ⟨pxr HO_7⟩, ⟨pxb HB⟩⟩
       case round =>
        clear H'
        try clear c1
        try clear c2
        try clear p2
        try clear c4
        try clear c6
        try clear c9
        try clear c9b0
        try clear c9b1
        try clear c12
        try clear c18
        try clear c18b0
        try clear c18b1
        try clear c19
        try clear c19b0
        try clear c19b1
        try clear c20
        try clear c20b0
        try clear c20b1
        try clear c23
        try clear c23b0
        try clear c28
        try clear p2
        obtain ⟨x78_2, rfl, HA, HK2, HO_7, HO_76, HB⟩ := hrel
        cases gk with
        | zero => exact absurd HA.out (by simp [caulkerlaw03_EditTidies.l0])
        | succ k2 =>
         have H := HA.out
         clear HA
         simp only [caulkerlaw03_EditTidies.l0] at H
         by_cases c29 : x78_2 < (t412.length : Int)
         ·rw [if_pos c29] at H
          have c29b0 : decide (x78_2 < (t412.length : Int)) = true := decide_eq_true c29
          clear c29
          by_cases c30 : 0 ≤ x78_2
          ·rw [if_pos c30] at H
           have c30b0 : decide (0 ≤ x78_2) = true := decide_eq_true c30
           clear c30
           by_cases c31 : x78_2 < (t412.length : Int)
           ·rw [if_pos c31] at H
            have c31b0 : decide (x78_2 < (t412.length : Int)) = true := decide_eq_true c31
            clear c31
            by_cases c32 : 0 ≤ ((rd_T60 t412 x78_2).f0.f0)
            ·rw [if_pos c32] at H
             have c32b0 := eq_true c32
             have c32b1 : decide (0 ≤ ((rd_T60 t412 x78_2).f0.f0)) = true := decide_eq_true c32
             clear c32
             by_cases c33 : ((rd_T60 t412 x78_2).f0.f0) ≤ ((rd_T60 t412 x78_2).f0.f1)
             ·rw [if_pos c33] at H
              have c33b0 := eq_true c33
              have c33b1 : decide (((rd_T60 t412 x78_2).f0.f0) ≤ ((rd_T60 t412 x78_2).f0.f1)) = true := decide_eq_true c33
              clear c33
              by_cases c34 : ((rd_T60 t412 x78_2).f0.f1) ≤ (a0.size : Int)
              ·rw [if_pos c34] at H
               have c34b0 := eq_true c34
               have c34b1 : decide (((rd_T60 t412 x78_2).f0.f1) ≤ (a0.size : Int)) = true := decide_eq_true c34
               clear c34
               have HC35 := Aside0.mk H
               clear H
               have p420 : 0 ≤ (x78_2 : Int) := of_decide_eq_true (by first | (with_reducible assumption) | assumption)
               have q420 : x78_2 < (t412.length : Int) := of_decide_eq_true (by first | (with_reducible assumption) | assumption)
               obtain ⟨ad420, e420, hx420_0, hx420_1, hx420_2⟩ := at_T60 (Kd.R_reads' HO_76.out).2.2 x78_2 p420 q420
               cases e420
               replace p420 := eq_true p420
               replace q420 := eq_true q420
               go_upto_region 16 with (first | ((with_reducible refine gate_dst (N := 12) rfl ?_); refine box_event ?hg (N := 12) ?hd (cs := #[.int .i64 0, .int .i64 0, .string (⟨#[]⟩ : ByteArray)]) (t := 60) ?hr ?_; (case hd => rfl); (case hg => rfl); (case hr => first | (go_simp; done) | (go_simp; rfl)); intro gb421 hg w36 hbox hb; have n0_ := Aside0.mk (Kd.R_below (Kd.R_elderB (pxr HO_7) gb421 (Nat.le_of_eq hg.symm)) hb); have n1_ := Aside0.mk (Kd.R_below (Kd.R_elderB (pxr HO_76) gb421 (Nat.le_of_eq hg.symm)) hb); have n2_ := pxs HB hb; have n3_ := Aside0.mk (hbox); have n4_ := Aside0.mk ((by rw [hg]; exact (below_size (pxb HB)) : w.heap.size ≤ gb421)); have n5_ := Aside0.mk ((by rw [hg]; exact (below_size (pxb HB)) : w.heap.size ≤ gb421)); clear HO_7; clear HO_76; clear HB; have HO_7 := n0_; have HO_76 := n1_; have HB := n2_; have BK421 := n3_; have GW421 := n4_; have GE421 := n5_; clear n0_ n1_ n2_ n3_ n4_ n5_; clear hb hbox hg; have hcz37_0 : w36.cell? ⟨gb421, 0, none⟩ = some (.int .i64 0) := (blk_cell BK421.out 0).trans rfl; have hcz37_1 : w36.cell? ⟨gb421, 1, none⟩ = some (.int .i64 0) := (blk_cell BK421.out 1).trans rfl; have hcz37_2 : w36.cell? ⟨gb421, 2, none⟩ = some (.string (⟨#[]⟩ : ByteArray)) := (blk_cell BK421.out 2).trans rfl; have hfz37_0 := blk_frozen BK421.out 0; have hfz37_1 := blk_frozen BK421.out 1; have hfz37_2 := blk_frozen BK421.out 2))
               repeat (go_quiet (first | ((with_reducible refine gate_dst (N := 12) rfl ?_); refine box_event ?hg (N := 12) ?hd (cs := #[.int .i64 0, .int .i64 0, .string (⟨#[]⟩ : ByteArray)]) (t := 60) ?hr ?_; (case hd => rfl); (case hg => rfl); (case hr => first | (go_simp; done) | (go_simp; rfl)); intro gb421 hg w36 hbox hb; have n0_ := Aside0.mk (Kd.R_below (Kd.R_elderB (pxr HO_7) gb421 (Nat.le_of_eq hg.symm)) hb); have n1_ := Aside0.mk (Kd.R_below (Kd.R_elderB (pxr HO_76) gb421 (Nat.le_of_eq hg.symm)) hb); have n2_ := pxs HB hb; have n3_ := Aside0.mk (hbox); have n4_ := Aside0.mk ((by rw [hg]; exact (below_size (pxb HB)) : w.heap.size ≤ gb421)); have n5_ := Aside0.mk ((by rw [hg]; exact (below_size (pxb HB)) : w.heap.size ≤ gb421)); clear HO_7; clear HO_76; clear HB; have HO_7 := n0_; have HO_76 := n1_; have HB := n2_; have BK421 := n3_; have GW421 := n4_; have GE421 := n5_; clear n0_ n1_ n2_ n3_ n4_ n5_; clear hb hbox hg; have hcz37_0 : w36.cell? ⟨gb421, 0, none⟩ = some (.int .i64 0) := (blk_cell BK421.out 0).trans rfl; have hcz37_1 : w36.cell? ⟨gb421, 1, none⟩ = some (.int .i64 0) := (blk_cell BK421.out 1).trans rfl; have hcz37_2 : w36.cell? ⟨gb421, 2, none⟩ = some (.string (⟨#[]⟩ : ByteArray)) := (blk_cell BK421.out 2).trans rfl; have hfz37_0 := blk_frozen BK421.out 0; have hfz37_1 := blk_frozen BK421.out 1; have hfz37_2 := blk_frozen BK421.out 2)); go_upto_region 16 with (first | ((with_reducible refine gate_dst (N := 12) rfl ?_); refine box_event ?hg (N := 12) ?hd (cs := #[.int .i64 0, .int .i64 0, .string (⟨#[]⟩ : ByteArray)]) (t := 60) ?hr ?_; (case hd => rfl); (case hg => rfl); (case hr => first | (go_simp; done) | (go_simp; rfl)); intro gb421 hg w36 hbox hb; have n0_ := Aside0.mk (Kd.R_below (Kd.R_elderB (pxr HO_7) gb421 (Nat.le_of_eq hg.symm)) hb); have n1_ := Aside0.mk (Kd.R_below (Kd.R_elderB (pxr HO_76) gb421 (Nat.le_of_eq hg.symm)) hb); have n2_ := pxs HB hb; have n3_ := Aside0.mk (hbox); have n4_ := Aside0.mk ((by rw [hg]; exact (below_size (pxb HB)) : w.heap.size ≤ gb421)); have n5_ := Aside0.mk ((by rw [hg]; exact (below_size (pxb HB)) : w.heap.size ≤ gb421)); clear HO_7; clear HO_76; clear HB; have HO_7 := n0_; have HO_76 := n1_; have HB := n2_; have BK421 := n3_; have GW421 := n4_; have GE421 := n5_; clear n0_ n1_ n2_ n3_ n4_ n5_; clear hb hbox hg; have hcz37_0 : w36.cell? ⟨gb421, 0, none⟩ = some (.int .i64 0) := (blk_cell BK421.out 0).trans rfl; have hcz37_1 : w36.cell? ⟨gb421, 1, none⟩ = some (.int .i64 0) := (blk_cell BK421.out 1).trans rfl; have hcz37_2 : w36.cell? ⟨gb421, 2, none⟩ = some (.string (⟨#[]⟩ : ByteArray)) := (blk_cell BK421.out 2).trans rfl; have hfz37_0 := blk_frozen BK421.out 0; have hfz37_1 := blk_frozen BK421.out 1; have hfz37_2 := blk_frozen BK421.out 2)))
               (try simp only [Act.put, List.setIfInBounds_toArray, List.set_cons_zero, List.set_cons_succ])
               go_cut [114] (fun v114 wc => ∃ (kq : Nat) (x114_34 : Bool), v114 = .bool x114_34 ∧ Aside0 (caulkerlaw03_EditTidies.j2 kq a0 t412 (a0.extract (((rd_T60 t412 x78_2).f0.f0) : Int).toNat (((rd_T60 t412 x78_2).f0.f1) : Int).toNat) t412 (t412.length : Int) x78_2 x114_34 ((rd_T60 t412 x78_2).f0.f0) ((rd_T60 t412 x78_2).f0.f1) ((rd_T60 t412 x78_2).f1) = some r) ∧ Aside0 (kq ≤ k2) ∧ Aside0 (Kd.R k60 60 wc w.heap.size (fun k_ => k_ ≠ gb421) (.slice (some ad420) t412.length co16) t412) ∧ Aside0 (Kd.R k60 60 wc w.heap.size (fun k_ => k_ ≠ gb421) (.slice (some ad420) t412.length co16) t412) ∧ Aside0 (wc.heap[gb421]? = some (.cells #[.int .i64 ((rd_T60 t412 x78_2).f0.f0), .int .i64 ((rd_T60 t412 x78_2).f0.f1), .string ((rd_T60 t412 x78_2).f1)] 60 (0, 0))) ∧ Aside0 (Below w.heap.size w wc))
               case first =>
                have H := HC35.out
                clear HC35
                by_cases c38 : (a0.extract (((rd_T60 t412 x78_2).f0.f0) : Int).toNat (((rd_T60 t412 x78_2).f0.f1) : Int).toNat).toList = ([] : List UInt8)
                ·rw [if_pos c38] at H
                 have c38b0 : ((a0.extract (((rd_T60 t412 x78_2).f0.f0) : Int).toNat (((rd_T60 t412 x78_2).f0.f1) : Int).toNat).toList == ([] : List UInt8)) = true := beq_iff_eq.mpr c38
                 have c38b1 : ((a0.extract (((rd_T60 t412 x78_2).f0.f0) : Int).toNat (((rd_T60 t412 x78_2).f0.f1) : Int).toNat).toList != ([] : List UInt8)) = false := bne_eq_false_iff_eq.mpr c38
                 clear c38
                 (first | rw [c38b0] | (simp only [i64_w, i32_w]; rw [c38b0]) | skip)
                 by_cases c39 : ((rd_T60 t412 x78_2).f1).toList = ([] : List UInt8)
                 ·rw [if_pos c39] at H
                  have c39b0 : (((rd_T60 t412 x78_2).f1).toList == ([] : List UInt8)) = true := beq_iff_eq.mpr c39
                  have c39b1 : (((rd_T60 t412 x78_2).f1).toList != ([] : List UInt8)) = false := bne_eq_false_iff_eq.mpr c39
                  clear c39
                  have H' := Aside0.mk H
                  clear H
                  have hcz40_0 : w36.cell? ⟨gb421, 0, none⟩ = some (.int .i64 0) := (blk_cell BK421.out 0).trans rfl
                  have hcz40_1 : w36.cell? ⟨gb421, 1, none⟩ = some (.int .i64 0) := (blk_cell BK421.out 1).trans rfl
                  have hcz40_2 : w36.cell? ⟨gb421, 2, none⟩ = some (.string (⟨#[]⟩ : ByteArray)) := (blk_cell BK421.out 2).trans rfl
                  have hfz40_0 := blk_frozen BK421.out 0
                  have hfz40_1 := blk_frozen BK421.out 1
                  have hfz40_2 := blk_frozen BK421.out 2
                  go_wp2
                  repeat (go_quiet (fail); try go_wp2)
                  go_meet
                  case rel => exact ⟨_, (true), (by first | rfl | (simp; done) | (simp [*]; done)), H', ⟨by have := HJ10.out; have := HK2.out; first | omega | exact Nat.le_refl _⟩, ⟨by (with_reducible repeat (first | apply Kd.R_alloc | apply Kd.R_drewN | apply Kd.R_drew)); exact Kd.R_mono (Kd.R_far (p := ⟨gb421, 2, none⟩) (Kd.R_far (p := ⟨gb421, 1, none⟩) (Kd.R_far (p := ⟨gb421, 0, none⟩) (Kd.R_mono HO_7.out (fun k_ hk => (⟨hk, hk.2⟩ : _ ∧ k_ ≠ gb421))) (fun _ hk => hk.2) (.int .i64 ((rd_T60 t412 x78_2).f0.f0))) (fun _ hk => hk.2) (.int .i64 ((rd_T60 t412 x78_2).f0.f1))) (fun _ hk => hk.2) (.string ((rd_T60 t412 x78_2).f1))) (fun _ hk => hk.1.2)⟩, ⟨by (with_reducible repeat (first | apply Kd.R_alloc | apply Kd.R_drewN | apply Kd.R_drew)); exact Kd.R_mono (Kd.R_far (p := ⟨gb421, 2, none⟩) (Kd.R_far (p := ⟨gb421, 1, none⟩) (Kd.R_far (p := ⟨gb421, 0, none⟩) (Kd.R_mono HO_76.out (fun k_ hk => (⟨hk, hk.2⟩ : _ ∧ k_ ≠ gb421))) (fun _ hk => hk.2) (.int .i64 ((rd_T60 t412 x78_2).f0.f0))) (fun _ hk => hk.2) (.int .i64 ((rd_T60 t412 x78_2).f0.f1))) (fun _ hk => hk.2) (.string ((rd_T60 t412 x78_2).f1))) (fun _ hk => hk.1.2)⟩, ⟨by (with_reducible repeat (first | refine blk_drewN ?_ _ | refine blk_drew ?_ | refine blk_alloc ?_ _)); refine blk_put (cs := #[.int .i64 ((rd_T60 t412 x78_2).f0.f0), .int .i64 ((rd_T60 t412 x78_2).f0.f1), .string (⟨#[]⟩ : ByteArray)]) ?_ 2 _ rfl; (with_reducible repeat (first | refine blk_drewN ?_ _ | refine blk_drew ?_ | refine blk_alloc ?_ _)); refine blk_put (cs := #[.int .i64 ((rd_T60 t412 x78_2).f0.f0), .int .i64 0, .string (⟨#[]⟩ : ByteArray)]) ?_ 1 _ rfl; (with_reducible repeat (first | refine blk_drewN ?_ _ | refine blk_drew ?_ | refine blk_alloc ?_ _)); refine blk_put (cs := #[.int .i64 0, .int .i64 0, .string (⟨#[]⟩ : ByteArray)]) ?_ 0 _ rfl; (with_reducible repeat (first | refine blk_drewN ?_ _ | refine blk_drew ?_ | refine blk_alloc ?_ _)); exact BK421.out⟩, ⟨pxb HB⟩⟩
                 ·rw [if_neg c39] at H
                  have c39b0 : (((rd_T60 t412 x78_2).f1).toList == ([] : List UInt8)) = false := beq_eq_false_iff_ne.mpr c39
                  have c39b1 : (((rd_T60 t412 x78_2).f1).toList != ([] : List UInt8)) = true := bne_iff_ne.mpr c39
                  by_cases c41 : x78_2 > 0
                  ·rw [if_pos c41] at H
                   have c41b0 : decide (0 < x78_2) = true := decide_eq_true c41
                   clear c41
                   obtain ⟨ji42, hji42⟩ : ∃ j_ : Int, (wrap64 (x78_2 - 1)) = j_ := ⟨_, rfl⟩
                   replace H : (if 0 ≤ (ji42) then (if (ji42) < (t412.length : Int) then (caulkerlaw03_EditTidies.j2 k2 a0 t412 (a0.extract (((rd_T60 t412 x78_2).f0.f0) : Int).toNat (((rd_T60 t412 x78_2).f0.f1) : Int).toNat) t412 (t412.length : Int) x78_2 (decide (((rd_T60 t412 (ji42)).f0.f1) ≥ ((rd_T60 t412 x78_2).f0.f0))) ((rd_T60 t412 x78_2).f0.f0) ((rd_T60 t412 x78_2).f0.f1) ((rd_T60 t412 x78_2).f1)) else (none)) else (none)) = some r := by first | (rw [hji42] at H; exact H) | (simp only [hji42] at H ⊢; exact H)
                   have hji42w : (IntKind.i64.wrap (x78_2 - 1)) = ji42 := (i64_w _).trans hji42
                   by_cases c43 : 0 ≤ (ji42)
                   ·rw [if_pos c43] at H
                    have c43b0 : decide (0 ≤ (ji42)) = true := decide_eq_true c43
                    clear c43
                    by_cases c44 : (ji42) < (t412.length : Int)
                    ·rw [if_pos c44] at H
                     have c44b0 : decide ((ji42) < (t412.length : Int)) = true := decide_eq_true c44
                     clear c44
                     have H' := Aside0.mk H
                     clear H
                     have hcz45_0 : w36.cell? ⟨gb421, 0, none⟩ = some (.int .i64 0) := (blk_cell BK421.out 0).trans rfl
                     have hcz45_1 : w36.cell? ⟨gb421, 1, none⟩ = some (.int .i64 0) := (blk_cell BK421.out 1).trans rfl
                     have hcz45_2 : w36.cell? ⟨gb421, 2, none⟩ = some (.string (⟨#[]⟩ : ByteArray)) := (blk_cell BK421.out 2).trans rfl
                     have hfz45_0 := blk_frozen BK421.out 0
                     have hfz45_1 := blk_frozen BK421.out 1
                     have hfz45_2 := blk_frozen BK421.out 2
                     have p422 : 0 ≤ ((ji42) : Int) := of_decide_eq_true (by first | (with_reducible assumption) | assumption)
                     have q422 : (ji42) < (t412.length : Int) := of_decide_eq_true (by first | (with_reducible assumption) | assumption)
                     obtain ⟨ad422, e422, hx422_0, hx422_1, hx422_2⟩ := at_T60 (Kd.R_reads' HO_7.out).2.2 (ji42) p422 q422
                     obtain rfl : ad420 = ad422 := (by injection e422)
                     have hn422_0 : ad420.block ≠ gb421 := Kd.own_blk (by first | exact Kd.R_ne HO_7.out BK421.out (by decide) | exact pxne HO_7)
                     have hn422_1 : ad420.block ≠ gb421 := Kd.own_blk (by first | exact Kd.R_ne HO_7.out BK421.out (by decide) | exact pxne HO_7)
                     have hn422_2 : ad420.block ≠ gb421 := Kd.own_blk (by first | exact Kd.R_ne HO_7.out BK421.out (by decide) | exact pxne HO_7)
                     replace hx422_0 := (cell_far (p := ⟨gb421, 0, none⟩) (by first | (rw [add_block]; exact hn422_0) | (show (Addr.add _ _).block ≠ _; rw [add_block]; exact hn422_0) | exact hn422_0) (.int .i64 ((rd_T60 t412 x78_2).f0.f0))).trans hx422_0
                     replace hx422_1 := (cell_far (p := ⟨gb421, 0, none⟩) (by first | (rw [add_block]; exact hn422_0) | (show (Addr.add _ _).block ≠ _; rw [add_block]; exact hn422_0) | exact hn422_0) (.int .i64 ((rd_T60 t412 x78_2).f0.f0))).trans hx422_1
                     replace hx422_2 := (cell_far (p := ⟨gb421, 0, none⟩) (by first | (rw [add_block]; exact hn422_0) | (show (Addr.add _ _).block ≠ _; rw [add_block]; exact hn422_0) | exact hn422_0) (.int .i64 ((rd_T60 t412 x78_2).f0.f0))).trans hx422_2
                     replace hx422_0 := (cell_far (p := ⟨gb421, 1, none⟩) (by first | (rw [add_block]; exact hn422_1) | (show (Addr.add _ _).block ≠ _; rw [add_block]; exact hn422_1) | exact hn422_1) (.int .i64 ((rd_T60 t412 x78_2).f0.f1))).trans hx422_0
                     replace hx422_1 := (cell_far (p := ⟨gb421, 1, none⟩) (by first | (rw [add_block]; exact hn422_1) | (show (Addr.add _ _).block ≠ _; rw [add_block]; exact hn422_1) | exact hn422_1) (.int .i64 ((rd_T60 t412 x78_2).f0.f1))).trans hx422_1
                     replace hx422_2 := (cell_far (p := ⟨gb421, 1, none⟩) (by first | (rw [add_block]; exact hn422_1) | (show (Addr.add _ _).block ≠ _; rw [add_block]; exact hn422_1) | exact hn422_1) (.int .i64 ((rd_T60 t412 x78_2).f0.f1))).trans hx422_2
                     replace hx422_0 := (cell_far (p := ⟨gb421, 2, none⟩) (by first | (rw [add_block]; exact hn422_2) | (show (Addr.add _ _).block ≠ _; rw [add_block]; exact hn422_2) | exact hn422_2) (.string ((rd_T60 t412 x78_2).f1))).trans hx422_0
                     replace hx422_1 := (cell_far (p := ⟨gb421, 2, none⟩) (by first | (rw [add_block]; exact hn422_2) | (show (Addr.add _ _).block ≠ _; rw [add_block]; exact hn422_2) | exact hn422_2) (.string ((rd_T60 t412 x78_2).f1))).trans hx422_1
                     replace hx422_2 := (cell_far (p := ⟨gb421, 2, none⟩) (by first | (rw [add_block]; exact hn422_2) | (show (Addr.add _ _).block ≠ _; rw [add_block]; exact hn422_2) | exact hn422_2) (.string ((rd_T60 t412 x78_2).f1))).trans hx422_2
                     (try have hy422_0 := fun (n_ : Nat) => (show (((((w36.drewN n_).setCell ⟨gb421, 0, none⟩ (.int .i64 ((rd_T60 t412 x78_2).f0.f0))).setCell ⟨gb421, 1, none⟩ (.int .i64 ((rd_T60 t412 x78_2).f0.f1))).setCell ⟨gb421, 2, none⟩ (.string ((rd_T60 t412 x78_2).f1)))).cell? _ = some _ from hx422_0))
                     (try have hy422_1 := fun (n_ : Nat) => (show (((((w36.drewN n_).setCell ⟨gb421, 0, none⟩ (.int .i64 ((rd_T60 t412 x78_2).f0.f0))).setCell ⟨gb421, 1, none⟩ (.int .i64 ((rd_T60 t412 x78_2).f0.f1))).setCell ⟨gb421, 2, none⟩ (.string ((rd_T60 t412 x78_2).f1)))).cell? _ = some _ from hx422_1))
                     (try have hy422_2 := fun (n_ : Nat) => (show (((((w36.drewN n_).setCell ⟨gb421, 0, none⟩ (.int .i64 ((rd_T60 t412 x78_2).f0.f0))).setCell ⟨gb421, 1, none⟩ (.int .i64 ((rd_T60 t412 x78_2).f0.f1))).setCell ⟨gb421, 2, none⟩ (.string ((rd_T60 t412 x78_2).f1)))).cell? _ = some _ from hx422_2))
                     clear hn422_0
                     clear hn422_1
                     clear hn422_2
                     replace p422 := eq_true p422
                     replace q422 := eq_true q422
                     go_wp2
                     repeat (go_quiet (fail); try go_wp2)
                     go_meet
                     case rel => exact ⟨_, (decide (((rd_T60 t412 (ji42)).f0.f1) ≥ ((rd_T60 t412 x78_2).f0.f0))), (by first | rfl | (simp; done) | (simp only [← hji42] <;> (first | rfl | simp)) | (simp [*]; done)), H', ⟨by have := HJ10.out; have := HK2.out; first | omega | exact Nat.le_refl _⟩, ⟨by (with_reducible repeat (first | apply Kd.R_alloc | apply Kd.R_drewN | apply Kd.R_drew)); exact Kd.R_mono (Kd.R_far (p := ⟨gb421, 2, none⟩) (Kd.R_far (p := ⟨gb421, 1, none⟩) (Kd.R_far (p := ⟨gb421, 0, none⟩) (Kd.R_mono HO_7.out (fun k_ hk => (⟨hk, hk.2⟩ : _ ∧ k_ ≠ gb421))) (fun _ hk => hk.2) (.int .i64 ((rd_T60 t412 x78_2).f0.f0))) (fun _ hk => hk.2) (.int .i64 ((rd_T60 t412 x78_2).f0.f1))) (fun _ hk => hk.2) (.string ((rd_T60 t412 x78_2).f1))) (fun _ hk => hk.1.2)⟩, ⟨by (with_reducible repeat (first | apply Kd.R_alloc | apply Kd.R_drewN | apply Kd.R_drew)); exact Kd.R_mono (Kd.R_far (p := ⟨gb421, 2, none⟩) (Kd.R_far (p := ⟨gb421, 1, none⟩) (Kd.R_far (p := ⟨gb421, 0, none⟩) (Kd.R_mono HO_76.out (fun k_ hk => (⟨hk, hk.2⟩ : _ ∧ k_ ≠ gb421))) (fun _ hk => hk.2) (.int .i64 ((rd_T60 t412 x78_2).f0.f0))) (fun _ hk => hk.2) (.int .i64 ((rd_T60 t412 x78_2).f0.f1))) (fun _ hk => hk.2) (.string ((rd_T60 t412 x78_2).f1))) (fun _ hk => hk.1.2)⟩, ⟨by (with_reducible repeat (first | refine blk_drewN ?_ _ | refine blk_drew ?_ | refine blk_alloc ?_ _)); refine blk_put (cs := #[.int .i64 ((rd_T60 t412 x78_2).f0.f0), .int .i64 ((rd_T60 t412 x78_2).f0.f1), .string (⟨#[]⟩ : ByteArray)]) ?_ 2 _ rfl; (with_reducible repeat (first | refine blk_drewN ?_ _ | refine blk_drew ?_ | refine blk_alloc ?_ _)); refine blk_put (cs := #[.int .i64 ((rd_T60 t412 x78_2).f0.f0), .int .i64 0, .string (⟨#[]⟩ : ByteArray)]) ?_ 1 _ rfl; (with_reducible repeat (first | refine blk_drewN ?_ _ | refine blk_drew ?_ | refine blk_alloc ?_ _)); refine blk_put (cs := #[.int .i64 0, .int .i64 0, .string (⟨#[]⟩ : ByteArray)]) ?_ 0 _ rfl; (with_reducible repeat (first | refine blk_drewN ?_ _ | refine blk_drew ?_ | refine blk_alloc ?_ _)); exact BK421.out⟩, ⟨pxb HB⟩⟩
                    ·rw [if_neg c44] at H
                     exact absurd H (by simp)
                   ·rw [if_neg c43] at H
                    exact absurd H (by simp)
                  ·rw [if_neg c41] at H
                   have c41b0 : decide (0 < x78_2) = false := decide_eq_false c41
                   clear c41
                   have H' := Aside0.mk H
                   clear H
                   have hcz46_0 : w36.cell? ⟨gb421, 0, none⟩ = some (.int .i64 0) := (blk_cell BK421.out 0).trans rfl
                   have hcz46_1 : w36.cell? ⟨gb421, 1, none⟩ = some (.int .i64 0) := (blk_cell BK421.out 1).trans rfl
                   have hcz46_2 : w36.cell? ⟨gb421, 2, none⟩ = some (.string (⟨#[]⟩ : ByteArray)) := (blk_cell BK421.out 2).trans rfl
                   have hfz46_0 := blk_frozen BK421.out 0
                   have hfz46_1 := blk_frozen BK421.out 1
                   have hfz46_2 := blk_frozen BK421.out 2
                   go_wp2
                   repeat (go_quiet (fail); try go_wp2)
                   go_meet
                   case rel => exact ⟨_, (false), (by first | rfl | (simp; done) | (simp [*]; done)), H', ⟨by have := HJ10.out; have := HK2.out; first | omega | exact Nat.le_refl _⟩, ⟨by (with_reducible repeat (first | apply Kd.R_alloc | apply Kd.R_drewN | apply Kd.R_drew)); exact Kd.R_mono (Kd.R_far (p := ⟨gb421, 2, none⟩) (Kd.R_far (p := ⟨gb421, 1, none⟩) (Kd.R_far (p := ⟨gb421, 0, none⟩) (Kd.R_mono HO_7.out (fun k_ hk => (⟨hk, hk.2⟩ : _ ∧ k_ ≠ gb421))) (fun _ hk => hk.2) (.int .i64 ((rd_T60 t412 x78_2).f0.f0))) (fun _ hk => hk.2) (.int .i64 ((rd_T60 t412 x78_2).f0.f1))) (fun _ hk => hk.2) (.string ((rd_T60 t412 x78_2).f1))) (fun _ hk => hk.1.2)⟩, ⟨by (with_reducible repeat (first | apply Kd.R_alloc | apply Kd.R_drewN | apply Kd.R_drew)); exact Kd.R_mono (Kd.R_far (p := ⟨gb421, 2, none⟩) (Kd.R_far (p := ⟨gb421, 1, none⟩) (Kd.R_far (p := ⟨gb421, 0, none⟩) (Kd.R_mono HO_76.out (fun k_ hk => (⟨hk, hk.2⟩ : _ ∧ k_ ≠ gb421))) (fun _ hk => hk.2) (.int .i64 ((rd_T60 t412 x78_2).f0.f0))) (fun _ hk => hk.2) (.int .i64 ((rd_T60 t412 x78_2).f0.f1))) (fun _ hk => hk.2) (.string ((rd_T60 t412 x78_2).f1))) (fun _ hk => hk.1.2)⟩, ⟨by (with_reducible repeat (first | refine blk_drewN ?_ _ | refine blk_drew ?_ | refine blk_alloc ?_ _)); refine blk_put (cs := #[.int .i64 ((rd_T60 t412 x78_2).f0.f0), .int .i64 ((rd_T60 t412 x78_2).f0.f1), .string (⟨#[]⟩ : ByteArray)]) ?_ 2 _ rfl; (with_reducible repeat (first | refine blk_drewN ?_ _ | refine blk_drew ?_ | refine blk_alloc ?_ _)); refine blk_put (cs := #[.int .i64 ((rd_T60 t412 x78_2).f0.f0), .int .i64 0, .string (⟨#[]⟩ : ByteArray)]) ?_ 1 _ rfl; (with_reducible repeat (first | refine blk_drewN ?_ _ | refine blk_drew ?_ | refine blk_alloc ?_ _)); refine blk_put (cs := #[.int .i64 0, .int .i64 0, .string (⟨#[]⟩ : ByteArray)]) ?_ 0 _ rfl; (with_reducible repeat (first | refine blk_drewN ?_ _ | refine blk_drew ?_ | refine blk_alloc ?_ _)); exact BK421.out⟩, ⟨pxb HB⟩⟩
                ·rw [if_neg c38] at H
                 have c38b0 : ((a0.extract (((rd_T60 t412 x78_2).f0.f0) : Int).toNat (((rd_T60 t412 x78_2).f0.f1) : Int).toNat).toList == ([] : List UInt8)) = false := beq_eq_false_iff_ne.mpr c38
                 have c38b1 : ((a0.extract (((rd_T60 t412 x78_2).f0.f0) : Int).toNat (((rd_T60 t412 x78_2).f0.f1) : Int).toNat).toList != ([] : List UInt8)) = true := bne_iff_ne.mpr c38
                 (first | rw [c38b0] | (simp only [i64_w, i32_w]; rw [c38b0]) | skip)
                 by_cases c47 : x78_2 > 0
                 ·rw [if_pos c47] at H
                  have c47b0 : decide (0 < x78_2) = true := decide_eq_true c47
                  clear c47
                  obtain ⟨ji48, hji48⟩ : ∃ j_ : Int, (wrap64 (x78_2 - 1)) = j_ := ⟨_, rfl⟩
                  replace H : (if 0 ≤ (ji48) then (if (ji48) < (t412.length : Int) then (caulkerlaw03_EditTidies.j2 k2 a0 t412 (a0.extract (((rd_T60 t412 x78_2).f0.f0) : Int).toNat (((rd_T60 t412 x78_2).f0.f1) : Int).toNat) t412 (t412.length : Int) x78_2 (decide (((rd_T60 t412 (ji48)).f0.f1) ≥ ((rd_T60 t412 x78_2).f0.f0))) ((rd_T60 t412 x78_2).f0.f0) ((rd_T60 t412 x78_2).f0.f1) ((rd_T60 t412 x78_2).f1)) else (none)) else (none)) = some r := by first | (rw [hji48] at H; exact H) | (simp only [hji48] at H ⊢; exact H)
                  have hji48w : (IntKind.i64.wrap (x78_2 - 1)) = ji48 := (i64_w _).trans hji48
                  by_cases c49 : 0 ≤ (ji48)
                  ·rw [if_pos c49] at H
                   have c49b0 : decide (0 ≤ (ji48)) = true := decide_eq_true c49
                   clear c49
                   by_cases c50 : (ji48) < (t412.length : Int)
                   ·rw [if_pos c50] at H
                    have c50b0 : decide ((ji48) < (t412.length : Int)) = true := decide_eq_true c50
                    clear c50
                    have H' := Aside0.mk H
                    clear H
                    have p423 : 0 ≤ ((ji48) : Int) := of_decide_eq_true (by first | (with_reducible assumption) | assumption)
                    have q423 : (ji48) < (t412.length : Int) := of_decide_eq_true (by first | (with_reducible assumption) | assumption)
                    obtain ⟨ad423, e423, hx423_0, hx423_1, hx423_2⟩ := at_T60 (Kd.R_reads' HO_7.out).2.2 (ji48) p423 q423
                    obtain rfl : ad420 = ad423 := (by injection e423)
                    have hn423_0 : ad420.block ≠ gb421 := Kd.own_blk (by first | exact Kd.R_ne HO_7.out BK421.out (by decide) | exact pxne HO_7)
                    have hn423_1 : ad420.block ≠ gb421 := Kd.own_blk (by first | exact Kd.R_ne HO_7.out BK421.out (by decide) | exact pxne HO_7)
                    have hn423_2 : ad420.block ≠ gb421 := Kd.own_blk (by first | exact Kd.R_ne HO_7.out BK421.out (by decide) | exact pxne HO_7)
                    replace hx423_0 := (cell_far (p := ⟨gb421, 0, none⟩) (by first | (rw [add_block]; exact hn423_0) | (show (Addr.add _ _).block ≠ _; rw [add_block]; exact hn423_0) | exact hn423_0) (.int .i64 ((rd_T60 t412 x78_2).f0.f0))).trans hx423_0
                    replace hx423_1 := (cell_far (p := ⟨gb421, 0, none⟩) (by first | (rw [add_block]; exact hn423_0) | (show (Addr.add _ _).block ≠ _; rw [add_block]; exact hn423_0) | exact hn423_0) (.int .i64 ((rd_T60 t412 x78_2).f0.f0))).trans hx423_1
                    replace hx423_2 := (cell_far (p := ⟨gb421, 0, none⟩) (by first | (rw [add_block]; exact hn423_0) | (show (Addr.add _ _).block ≠ _; rw [add_block]; exact hn423_0) | exact hn423_0) (.int .i64 ((rd_T60 t412 x78_2).f0.f0))).trans hx423_2
                    replace hx423_0 := (cell_far (p := ⟨gb421, 1, none⟩) (by first | (rw [add_block]; exact hn423_1) | (show (Addr.add _ _).block ≠ _; rw [add_block]; exact hn423_1) | exact hn423_1) (.int .i64 ((rd_T60 t412 x78_2).f0.f1))).trans hx423_0
                    replace hx423_1 := (cell_far (p := ⟨gb421, 1, none⟩) (by first | (rw [add_block]; exact hn423_1) | (show (Addr.add _ _).block ≠ _; rw [add_block]; exact hn423_1) | exact hn423_1) (.int .i64 ((rd_T60 t412 x78_2).f0.f1))).trans hx423_1
                    replace hx423_2 := (cell_far (p := ⟨gb421, 1, none⟩) (by first | (rw [add_block]; exact hn423_1) | (show (Addr.add _ _).block ≠ _; rw [add_block]; exact hn423_1) | exact hn423_1) (.int .i64 ((rd_T60 t412 x78_2).f0.f1))).trans hx423_2
                    replace hx423_0 := (cell_far (p := ⟨gb421, 2, none⟩) (by first | (rw [add_block]; exact hn423_2) | (show (Addr.add _ _).block ≠ _; rw [add_block]; exact hn423_2) | exact hn423_2) (.string ((rd_T60 t412 x78_2).f1))).trans hx423_0
                    replace hx423_1 := (cell_far (p := ⟨gb421, 2, none⟩) (by first | (rw [add_block]; exact hn423_2) | (show (Addr.add _ _).block ≠ _; rw [add_block]; exact hn423_2) | exact hn423_2) (.string ((rd_T60 t412 x78_2).f1))).trans hx423_1
                    replace hx423_2 := (cell_far (p := ⟨gb421, 2, none⟩) (by first | (rw [add_block]; exact hn423_2) | (show (Addr.add _ _).block ≠ _; rw [add_block]; exact hn423_2) | exact hn423_2) (.string ((rd_T60 t412 x78_2).f1))).trans hx423_2
                    (try have hy423_0 := fun (n_ : Nat) => (show (((((w36.drewN n_).setCell ⟨gb421, 0, none⟩ (.int .i64 ((rd_T60 t412 x78_2).f0.f0))).setCell ⟨gb421, 1, none⟩ (.int .i64 ((rd_T60 t412 x78_2).f0.f1))).setCell ⟨gb421, 2, none⟩ (.string ((rd_T60 t412 x78_2).f1)))).cell? _ = some _ from hx423_0))
                    (try have hy423_1 := fun (n_ : Nat) => (show (((((w36.drewN n_).setCell ⟨gb421, 0, none⟩ (.int .i64 ((rd_T60 t412 x78_2).f0.f0))).setCell ⟨gb421, 1, none⟩ (.int .i64 ((rd_T60 t412 x78_2).f0.f1))).setCell ⟨gb421, 2, none⟩ (.string ((rd_T60 t412 x78_2).f1)))).cell? _ = some _ from hx423_1))
                    (try have hy423_2 := fun (n_ : Nat) => (show (((((w36.drewN n_).setCell ⟨gb421, 0, none⟩ (.int .i64 ((rd_T60 t412 x78_2).f0.f0))).setCell ⟨gb421, 1, none⟩ (.int .i64 ((rd_T60 t412 x78_2).f0.f1))).setCell ⟨gb421, 2, none⟩ (.string ((rd_T60 t412 x78_2).f1)))).cell? _ = some _ from hx423_2))
                    clear hn423_0
                    clear hn423_1
                    clear hn423_2
                    replace p423 := eq_true p423
                    replace q423 := eq_true q423
                    have hcz51_0 : w36.cell? ⟨gb421, 0, none⟩ = some (.int .i64 0) := (blk_cell BK421.out 0).trans rfl
                    have hcz51_1 : w36.cell? ⟨gb421, 1, none⟩ = some (.int .i64 0) := (blk_cell BK421.out 1).trans rfl
                    have hcz51_2 : w36.cell? ⟨gb421, 2, none⟩ = some (.string (⟨#[]⟩ : ByteArray)) := (blk_cell BK421.out 2).trans rfl
                    have hfz51_0 := blk_frozen BK421.out 0
                    have hfz51_1 := blk_frozen BK421.out 1
                    have hfz51_2 := blk_frozen BK421.out 2
                    go_wp2
                    repeat (go_quiet (fail); try go_wp2)
                    go_meet
                    case rel => exact ⟨_, (decide (((rd_T60 t412 (ji48)).f0.f1) ≥ ((rd_T60 t412 x78_2).f0.f0))), (by first | rfl | (simp; done) | (simp only [← hji48] <;> (first | rfl | simp)) | (simp [*]; done)), H', ⟨by have := HJ10.out; have := HK2.out; first | omega | exact Nat.le_refl _⟩, ⟨by (with_reducible repeat (first | apply Kd.R_alloc | apply Kd.R_drewN | apply Kd.R_drew)); exact Kd.R_mono (Kd.R_far (p := ⟨gb421, 2, none⟩) (Kd.R_far (p := ⟨gb421, 1, none⟩) (Kd.R_far (p := ⟨gb421, 0, none⟩) (Kd.R_mono HO_7.out (fun k_ hk => (⟨hk, hk.2⟩ : _ ∧ k_ ≠ gb421))) (fun _ hk => hk.2) (.int .i64 ((rd_T60 t412 x78_2).f0.f0))) (fun _ hk => hk.2) (.int .i64 ((rd_T60 t412 x78_2).f0.f1))) (fun _ hk => hk.2) (.string ((rd_T60 t412 x78_2).f1))) (fun _ hk => hk.1.2)⟩, ⟨by (with_reducible repeat (first | apply Kd.R_alloc | apply Kd.R_drewN | apply Kd.R_drew)); exact Kd.R_mono (Kd.R_far (p := ⟨gb421, 2, none⟩) (Kd.R_far (p := ⟨gb421, 1, none⟩) (Kd.R_far (p := ⟨gb421, 0, none⟩) (Kd.R_mono HO_76.out (fun k_ hk => (⟨hk, hk.2⟩ : _ ∧ k_ ≠ gb421))) (fun _ hk => hk.2) (.int .i64 ((rd_T60 t412 x78_2).f0.f0))) (fun _ hk => hk.2) (.int .i64 ((rd_T60 t412 x78_2).f0.f1))) (fun _ hk => hk.2) (.string ((rd_T60 t412 x78_2).f1))) (fun _ hk => hk.1.2)⟩, ⟨by (with_reducible repeat (first | refine blk_drewN ?_ _ | refine blk_drew ?_ | refine blk_alloc ?_ _)); refine blk_put (cs := #[.int .i64 ((rd_T60 t412 x78_2).f0.f0), .int .i64 ((rd_T60 t412 x78_2).f0.f1), .string (⟨#[]⟩ : ByteArray)]) ?_ 2 _ rfl; (with_reducible repeat (first | refine blk_drewN ?_ _ | refine blk_drew ?_ | refine blk_alloc ?_ _)); refine blk_put (cs := #[.int .i64 ((rd_T60 t412 x78_2).f0.f0), .int .i64 0, .string (⟨#[]⟩ : ByteArray)]) ?_ 1 _ rfl; (with_reducible repeat (first | refine blk_drewN ?_ _ | refine blk_drew ?_ | refine blk_alloc ?_ _)); refine blk_put (cs := #[.int .i64 0, .int .i64 0, .string (⟨#[]⟩ : ByteArray)]) ?_ 0 _ rfl; (with_reducible repeat (first | refine blk_drewN ?_ _ | refine blk_drew ?_ | refine blk_alloc ?_ _)); exact BK421.out⟩, ⟨pxb HB⟩⟩
                   ·rw [if_neg c50] at H
                    exact absurd H (by simp)
                  ·rw [if_neg c49] at H
                   exact absurd H (by simp)
                 ·rw [if_neg c47] at H
                  have c47b0 : decide (0 < x78_2) = false := decide_eq_false c47
                  clear c47
                  have H' := Aside0.mk H
                  clear H
                  go_wp2
                  repeat (go_quiet (fail); try go_wp2)
                  go_meet
                  case rel => exact ⟨_, (false), (by first | rfl | (simp; done) | (simp [*]; done)), H', ⟨by have := HJ10.out; have := HK2.out; first | omega | exact Nat.le_refl _⟩, ⟨by (with_reducible repeat (first | apply Kd.R_alloc | apply Kd.R_drewN | apply Kd.R_drew)); exact Kd.R_mono (Kd.R_far (p := ⟨gb421, 2, none⟩) (Kd.R_far (p := ⟨gb421, 1, none⟩) (Kd.R_far (p := ⟨gb421, 0, none⟩) (Kd.R_mono HO_7.out (fun k_ hk => (⟨hk, hk.2⟩ : _ ∧ k_ ≠ gb421))) (fun _ hk => hk.2) (.int .i64 ((rd_T60 t412 x78_2).f0.f0))) (fun _ hk => hk.2) (.int .i64 ((rd_T60 t412 x78_2).f0.f1))) (fun _ hk => hk.2) (.string ((rd_T60 t412 x78_2).f1))) (fun _ hk => hk.1.2)⟩, ⟨by (with_reducible repeat (first | apply Kd.R_alloc | apply Kd.R_drewN | apply Kd.R_drew)); exact Kd.R_mono (Kd.R_far (p := ⟨gb421, 2, none⟩) (Kd.R_far (p := ⟨gb421, 1, none⟩) (Kd.R_far (p := ⟨gb421, 0, none⟩) (Kd.R_mono HO_76.out (fun k_ hk => (⟨hk, hk.2⟩ : _ ∧ k_ ≠ gb421))) (fun _ hk => hk.2) (.int .i64 ((rd_T60 t412 x78_2).f0.f0))) (fun _ hk => hk.2) (.int .i64 ((rd_T60 t412 x78_2).f0.f1))) (fun _ hk => hk.2) (.string ((rd_T60 t412 x78_2).f1))) (fun _ hk => hk.1.2)⟩, ⟨by (with_reducible repeat (first | refine blk_drewN ?_ _ | refine blk_drew ?_ | refine blk_alloc ?_ _)); refine blk_put (cs := #[.int .i64 ((rd_T60 t412 x78_2).f0.f0), .int .i64 ((rd_T60 t412 x78_2).f0.f1), .string (⟨#[]⟩ : ByteArray)]) ?_ 2 _ rfl; (with_reducible repeat (first | refine blk_drewN ?_ _ | refine blk_drew ?_ | refine blk_alloc ?_ _)); refine blk_put (cs := #[.int .i64 ((rd_T60 t412 x78_2).f0.f0), .int .i64 0, .string (⟨#[]⟩ : ByteArray)]) ?_ 1 _ rfl; (with_reducible repeat (first | refine blk_drewN ?_ _ | refine blk_drew ?_ | refine blk_alloc ?_ _)); refine blk_put (cs := #[.int .i64 0, .int .i64 0, .string (⟨#[]⟩ : ByteArray)]) ?_ 0 _ rfl; (with_reducible repeat (first | refine blk_drewN ?_ _ | refine blk_drew ?_ | refine blk_alloc ?_ _)); exact BK421.out⟩, ⟨pxb HB⟩⟩
               case rest => as_aux_lemma =>
                clear HC35
                try clear c1
                try clear c2
                try clear p2
                try clear c3
                try clear c4
                try clear p4
                try clear q4
                try clear hx4
                try clear c5
                try clear c6
                try clear p6
                try clear c9
                try clear c9b0
                try clear c9b1
                try clear c12
                try clear c18
                try clear c18b0
                try clear c18b1
                try clear c19
                try clear c19b0
                try clear c19b1
                try clear c20
                try clear c20b0
                try clear c20b1
                try clear c23
                try clear c23b0
                try clear c28
                try clear c29
                try clear c29b0
                try clear c30
                try clear c30b0
                try clear c31
                try clear c31b0
                try clear c32
                try clear c32b0
                try clear c32b1
                try clear c33
                try clear c33b0
                try clear c33b1
                try clear c34
                try clear c34b0
                try clear c34b1
                try clear c38
                try clear c38b0
                try clear c38b1
                try clear c39
                try clear c39b0
                try clear c39b1
                try clear c41
                try clear c41b0
                try clear p42
                try clear q42
                try clear hx42
                try clear c43
                try clear c43b0
                try clear c44
                try clear c44b0
                try clear c47
                try clear c47b0
                try clear c49
                try clear c49b0
                try clear c50
                try clear c50b0
                try clear hcz37_0
                try clear hcz37_1
                try clear hcz37_2
                try clear hcz40_0
                try clear hcz40_1
                try clear hcz40_2
                try clear hcz45_0
                try clear hcz45_1
                try clear hcz45_2
                try clear hcz46_0
                try clear hcz46_1
                try clear hcz46_2
                try clear hcz51_0
                try clear hcz51_1
                try clear hcz51_2
                try clear hfz37_0
                try clear hfz37_1
                try clear hfz37_2
                try clear hfz40_0
                try clear hfz40_1
                try clear hfz40_2
                try clear hfz45_0
                try clear hfz45_1
                try clear hfz45_2
                try clear hfz46_0
                try clear hfz46_1
                try clear hfz46_2
                try clear hfz51_0
                try clear hfz51_1
                try clear hfz51_2
                try clear hx420_0
                try clear hx420_1
                try clear hx420_2
                try clear hx422_0
                try clear hx422_1
                try clear hx422_2
                try clear hx423_0
                try clear hx423_1
                try clear hx423_2
                try clear p2
                try clear p420
                try clear p422
                try clear p423
                try clear q420
                try clear q422
                try clear q423
                obtain ⟨kq, x114_34, rfl, HA, HJ34, HO_7, HO_76, BK421, HB⟩ := hcut
                generalize hold_ : a0.extract (((rd_T60 t412 x78_2).f0.f0) : Int).toNat (((rd_T60 t412 x78_2).f0.f1) : Int).toNat = old_ at HA ⊢
                clear hold_
                cases kq with
                | zero => exact absurd HA.out (by simp [caulkerlaw03_EditTidies.j2])
                | succ kj34 =>
                 have H := HA.out
                 clear HA
                 simp only [caulkerlaw03_EditTidies.j2] at H
                 by_cases c52 : x114_34 = true
                 ·subst c52
                  have H1 : (some false) = some r := by rw [if_pos rfl] at H; exact H
                  clear H
                  have H := H1
                  clear H1
                  obtain rfl := Option.some.inj H
                  go_wp2
                  repeat (go_quiet (fail); try go_wp2)
                  go_ret
                  exact ⟨by first | rfl | (simp [errW_none, errW_some] <;> rfl) | (simp [*, errW_none, errW_some] <;> rfl), pxb HB⟩
                 ·replace c52 := Bool.eq_false_iff.mpr c52
                  subst c52
                  have H1 : (if (old_).toList = ([] : List UInt8) then (caulkerlaw03_EditTidies.l0 kj34 a0 t412 t412 (t412.length : Int) (wrap64 (x78_2 + 1))) else (if ((rd_T60 t412 x78_2).f1).toList = ([] : List UInt8) then (caulkerlaw03_EditTidies.l0 kj34 a0 t412 t412 (t412.length : Int) (wrap64 (x78_2 + 1))) else (if 0 < ((old_).size : Int) then (if 0 < (((rd_T60 t412 x78_2).f1).size : Int) then (if (bt (old_) 0) = (bt ((rd_T60 t412 x78_2).f1) 0) then (some false) else (if 0 ≤ (wrap64 (((old_).size : Int) - 1)) then (if (wrap64 (((old_).size : Int) - 1)) < ((old_).size : Int) then (if 0 ≤ (wrap64 ((((rd_T60 t412 x78_2).f1).size : Int) - 1)) then (if (wrap64 ((((rd_T60 t412 x78_2).f1).size : Int) - 1)) < (((rd_T60 t412 x78_2).f1).size : Int) then (if (bt (old_) (wrap64 (((old_).size : Int) - 1))) = (bt ((rd_T60 t412 x78_2).f1) (wrap64 ((((rd_T60 t412 x78_2).f1).size : Int) - 1))) then (some false) else (caulkerlaw03_EditTidies.l0 kj34 a0 t412 t412 (t412.length : Int) (wrap64 (x78_2 + 1)))) else (none)) else (none)) else (none)) else (none))) else (none)) else (none)))) = some r := by rw [if_neg (show ¬ (false = true) by decide)] at H; exact H
                  clear H
                  have H := H1
                  clear H1
                  by_cases c53 : (old_).toList = ([] : List UInt8)
                  ·rw [if_pos c53] at H
                   have c53b0 : ((old_).toList == ([] : List UInt8)) = true := beq_iff_eq.mpr c53
                   have c53b1 : ((old_).toList != ([] : List UInt8)) = false := bne_eq_false_iff_eq.mpr c53
                   clear c53
                   have H' := Aside0.mk H
                   clear H
                   go_wp2
                   repeat (go_quiet (fail); try go_wp2)
                   go_roundg kj34
                   case measure => have := HJ10.out; have := HK2.out; have := HJ34.out; omega
                   case rel => exact ⟨(wrap64 (x78_2 + 1)), (by first | rfl | (simp; done) | (simp [*]; done)), H', ⟨by have := HJ10.out; have := HK2.out; have := HJ34.out; omega⟩, ⟨by (with_reducible repeat (first | apply Kd.R_alloc | apply Kd.R_drewN | apply Kd.R_drew)); exact Kd.R_mono HO_7.out (fun _ hk => trivial)⟩, ⟨by (with_reducible repeat (first | apply Kd.R_alloc | apply Kd.R_drewN | apply Kd.R_drew)); exact Kd.R_mono HO_76.out (fun _ hk => trivial)⟩, ⟨pxb HB⟩⟩
                  ·rw [if_neg c53] at H
                   have c53b0 : ((old_).toList == ([] : List UInt8)) = false := beq_eq_false_iff_ne.mpr c53
                   have c53b1 : ((old_).toList != ([] : List UInt8)) = true := bne_iff_ne.mpr c53
                   by_cases c54 : ((rd_T60 t412 x78_2).f1).toList = ([] : List UInt8)
                   ·rw [if_pos c54] at H
                    have c54b0 : (((rd_T60 t412 x78_2).f1).toList == ([] : List UInt8)) = true := beq_iff_eq.mpr c54
                    have c54b1 : (((rd_T60 t412 x78_2).f1).toList != ([] : List UInt8)) = false := bne_eq_false_iff_eq.mpr c54
                    clear c54
                    have H' := Aside0.mk H
                    clear H
                    have hcz55_0 : wc.cell? ⟨gb421, 0, none⟩ = some (.int .i64 ((rd_T60 t412 x78_2).f0.f0)) := (blk_cell BK421.out 0).trans rfl
                    have hcz55_1 : wc.cell? ⟨gb421, 1, none⟩ = some (.int .i64 ((rd_T60 t412 x78_2).f0.f1)) := (blk_cell BK421.out 1).trans rfl
                    have hcz55_2 : wc.cell? ⟨gb421, 2, none⟩ = some (.string ((rd_T60 t412 x78_2).f1)) := (blk_cell BK421.out 2).trans rfl
                    have hfz55_0 := blk_frozen BK421.out 0
                    have hfz55_1 := blk_frozen BK421.out 1
                    have hfz55_2 := blk_frozen BK421.out 2
                    go_wp2
                    repeat (go_quiet (fail); try go_wp2)
                    go_roundg kj34
                    case measure => have := HJ10.out; have := HK2.out; have := HJ34.out; omega
                    case rel => exact ⟨(wrap64 (x78_2 + 1)), (by first | rfl | (simp; done) | (simp [*]; done)), H', ⟨by have := HJ10.out; have := HK2.out; have := HJ34.out; omega⟩, ⟨by (with_reducible repeat (first | apply Kd.R_alloc | apply Kd.R_drewN | apply Kd.R_drew)); exact Kd.R_mono HO_7.out (fun _ hk => trivial)⟩, ⟨by (with_reducible repeat (first | apply Kd.R_alloc | apply Kd.R_drewN | apply Kd.R_drew)); exact Kd.R_mono HO_76.out (fun _ hk => trivial)⟩, ⟨pxb HB⟩⟩
                   ·rw [if_neg c54] at H
                    have c54b0 : (((rd_T60 t412 x78_2).f1).toList == ([] : List UInt8)) = false := beq_eq_false_iff_ne.mpr c54
                    have c54b1 : (((rd_T60 t412 x78_2).f1).toList != ([] : List UInt8)) = true := bne_iff_ne.mpr c54
                    by_cases c56 : 0 < ((old_).size : Int)
                    ·rw [if_pos c56] at H
                     have c56b0 : decide (0 < ((old_).size : Int)) = true := decide_eq_true c56
                     have c56b1 : decide (0 < (old_).size) = true := decide_eq_true (by omega)
                     clear c56
                     by_cases c58 : 0 < (((rd_T60 t412 x78_2).f1).size : Int)
                     ·rw [if_pos c58] at H
                      have c58b0 : decide (0 < (((rd_T60 t412 x78_2).f1).size : Int)) = true := decide_eq_true c58
                      have c58b1 : decide (0 < ((rd_T60 t412 x78_2).f1).size) = true := decide_eq_true (by omega)
                      clear c58
                      by_cases c60 : (bt (old_) 0) = (bt ((rd_T60 t412 x78_2).f1) 0)
                      ·rw [if_pos c60] at H
                       have c60b0 : ((bt (old_) 0) == (bt ((rd_T60 t412 x78_2).f1) 0)) = true := beq_iff_eq.mpr c60
                       have c60b1 : ((bt (old_) 0) != (bt ((rd_T60 t412 x78_2).f1) 0)) = false := bne_eq_false_iff_eq.mpr c60
                       clear c60
                       obtain rfl := Option.some.inj H
                       have hcz61_0 : wc.cell? ⟨gb421, 0, none⟩ = some (.int .i64 ((rd_T60 t412 x78_2).f0.f0)) := (blk_cell BK421.out 0).trans rfl
                       have hcz61_1 : wc.cell? ⟨gb421, 1, none⟩ = some (.int .i64 ((rd_T60 t412 x78_2).f0.f1)) := (blk_cell BK421.out 1).trans rfl
                       have hcz61_2 : wc.cell? ⟨gb421, 2, none⟩ = some (.string ((rd_T60 t412 x78_2).f1)) := (blk_cell BK421.out 2).trans rfl
                       have hfz61_0 := blk_frozen BK421.out 0
                       have hfz61_1 := blk_frozen BK421.out 1
                       have hfz61_2 := blk_frozen BK421.out 2
                       have p57 : 0 ≤ (0 : Int) := (by omega)
                       have q57 : 0 < (old_).size := (by have : (0 : Int) < ((old_).size : Int) := of_decide_eq_true (by first | (with_reducible assumption) | assumption); omega)
                       have hx57 : ∀ h : 0 < (old_).size, (((old_)[0]'h).toNat : Int) = bt (old_) 0 := bt_at (old_) 0
                       clear p57
                       have qi57 : (0 < ((old_).size : Int)) = True := eq_true (of_decide_eq_true (by first | (with_reducible assumption) | assumption))
                       replace q57 := eq_true q57
                       have p59 : 0 ≤ (0 : Int) := (by omega)
                       have q59 : 0 < ((rd_T60 t412 x78_2).f1).size := (by have : (0 : Int) < (((rd_T60 t412 x78_2).f1).size : Int) := of_decide_eq_true (by first | (with_reducible assumption) | assumption); omega)
                       have hx59 : ∀ h : 0 < ((rd_T60 t412 x78_2).f1).size, ((((rd_T60 t412 x78_2).f1)[0]'h).toNat : Int) = bt ((rd_T60 t412 x78_2).f1) 0 := bt_at ((rd_T60 t412 x78_2).f1) 0
                       clear p59
                       have qi59 : (0 < (((rd_T60 t412 x78_2).f1).size : Int)) = True := eq_true (of_decide_eq_true (by first | (with_reducible assumption) | assumption))
                       replace q59 := eq_true q59
                       go_wp2
                       repeat (go_quiet (fail); try go_wp2)
                       go_ret
                       exact ⟨by first | rfl | (simp [errW_none, errW_some] <;> rfl) | (simp [*, errW_none, errW_some] <;> rfl), pxb HB⟩
                      ·rw [if_neg c60] at H
                       have c60b0 : ((bt (old_) 0) == (bt ((rd_T60 t412 x78_2).f1) 0)) = false := beq_eq_false_iff_ne.mpr c60
                       have c60b1 : ((bt (old_) 0) != (bt ((rd_T60 t412 x78_2).f1) 0)) = true := bne_iff_ne.mpr c60
                       obtain ⟨ji62, hji62⟩ : ∃ j_ : Int, (wrap64 (((old_).size : Int) - 1)) = j_ := ⟨_, rfl⟩
                       replace H : (if 0 ≤ (ji62) then (if (ji62) < ((old_).size : Int) then (if 0 ≤ (wrap64 ((((rd_T60 t412 x78_2).f1).size : Int) - 1)) then (if (wrap64 ((((rd_T60 t412 x78_2).f1).size : Int) - 1)) < (((rd_T60 t412 x78_2).f1).size : Int) then (if (bt (old_) (ji62)) = (bt ((rd_T60 t412 x78_2).f1) (wrap64 ((((rd_T60 t412 x78_2).f1).size : Int) - 1))) then (some false) else (caulkerlaw03_EditTidies.l0 kj34 a0 t412 t412 (t412.length : Int) (wrap64 (x78_2 + 1)))) else (none)) else (none)) else (none)) else (none)) = some r := by first | (rw [hji62] at H; exact H) | (simp only [hji62] at H ⊢; exact H)
                       have hji62w : (IntKind.i64.wrap (((old_).size : Int) - 1)) = ji62 := (i64_w _).trans hji62
                       by_cases c63 : 0 ≤ (ji62)
                       ·rw [if_pos c63] at H
                        have c63b0 : decide (0 ≤ (ji62)) = true := decide_eq_true c63
                        clear c63
                        by_cases c64 : (ji62) < ((old_).size : Int)
                        ·rw [if_pos c64] at H
                         have c64b0 : decide ((ji62) < ((old_).size : Int)) = true := decide_eq_true c64
                         clear c64
                         obtain ⟨ji66, hji66⟩ : ∃ j_ : Int, (wrap64 ((((rd_T60 t412 x78_2).f1).size : Int) - 1)) = j_ := ⟨_, rfl⟩
                         replace H : (if 0 ≤ (ji66) then (if (ji66) < (((rd_T60 t412 x78_2).f1).size : Int) then (if (bt (old_) (ji62)) = (bt ((rd_T60 t412 x78_2).f1) (ji66)) then (some false) else (caulkerlaw03_EditTidies.l0 kj34 a0 t412 t412 (t412.length : Int) (wrap64 (x78_2 + 1)))) else (none)) else (none)) = some r := by first | (rw [hji66] at H; exact H) | (simp only [hji66] at H ⊢; exact H)
                         have hji66w : (IntKind.i64.wrap ((((rd_T60 t412 x78_2).f1).size : Int) - 1)) = ji66 := (i64_w _).trans hji66
                         by_cases c67 : 0 ≤ (ji66)
                         ·rw [if_pos c67] at H
                          have c67b0 : decide (0 ≤ (ji66)) = true := decide_eq_true c67
                          clear c67
                          by_cases c68 : (ji66) < (((rd_T60 t412 x78_2).f1).size : Int)
                          ·rw [if_pos c68] at H
                           have c68b0 : decide ((ji66) < (((rd_T60 t412 x78_2).f1).size : Int)) = true := decide_eq_true c68
                           clear c68
                           by_cases c70 : (bt (old_) (ji62)) = (bt ((rd_T60 t412 x78_2).f1) (ji66))
                           ·rw [if_pos c70] at H
                            have c70b0 : ((bt (old_) (ji62)) == (bt ((rd_T60 t412 x78_2).f1) (ji66))) = true := beq_iff_eq.mpr c70
                            have c70b1 : ((bt (old_) (ji62)) != (bt ((rd_T60 t412 x78_2).f1) (ji66))) = false := bne_eq_false_iff_eq.mpr c70
                            clear c70
                            obtain rfl := Option.some.inj H
                            have hcz71_0 : wc.cell? ⟨gb421, 0, none⟩ = some (.int .i64 ((rd_T60 t412 x78_2).f0.f0)) := (blk_cell BK421.out 0).trans rfl
                            have hcz71_1 : wc.cell? ⟨gb421, 1, none⟩ = some (.int .i64 ((rd_T60 t412 x78_2).f0.f1)) := (blk_cell BK421.out 1).trans rfl
                            have hcz71_2 : wc.cell? ⟨gb421, 2, none⟩ = some (.string ((rd_T60 t412 x78_2).f1)) := (blk_cell BK421.out 2).trans rfl
                            have hfz71_0 := blk_frozen BK421.out 0
                            have hfz71_1 := blk_frozen BK421.out 1
                            have hfz71_2 := blk_frozen BK421.out 2
                            have p57 : 0 ≤ (0 : Int) := (by omega)
                            have q57 : 0 < (old_).size := (by have : (0 : Int) < ((old_).size : Int) := of_decide_eq_true (by first | (with_reducible assumption) | assumption); omega)
                            have hx57 : ∀ h : 0 < (old_).size, (((old_)[0]'h).toNat : Int) = bt (old_) 0 := bt_at (old_) 0
                            clear p57
                            have qi57 : (0 < ((old_).size : Int)) = True := eq_true (of_decide_eq_true (by first | (with_reducible assumption) | assumption))
                            replace q57 := eq_true q57
                            have p59 : 0 ≤ (0 : Int) := (by omega)
                            have q59 : 0 < ((rd_T60 t412 x78_2).f1).size := (by have : (0 : Int) < (((rd_T60 t412 x78_2).f1).size : Int) := of_decide_eq_true (by first | (with_reducible assumption) | assumption); omega)
                            have hx59 : ∀ h : 0 < ((rd_T60 t412 x78_2).f1).size, ((((rd_T60 t412 x78_2).f1)[0]'h).toNat : Int) = bt ((rd_T60 t412 x78_2).f1) 0 := bt_at ((rd_T60 t412 x78_2).f1) 0
                            clear p59
                            have qi59 : (0 < (((rd_T60 t412 x78_2).f1).size : Int)) = True := eq_true (of_decide_eq_true (by first | (with_reducible assumption) | assumption))
                            replace q59 := eq_true q59
                            have p65 : 0 ≤ ((ji62) : Int) := of_decide_eq_true (by first | (with_reducible assumption) | assumption)
                            have q65 : (ji62) < ((old_).size : Int) := of_decide_eq_true (by first | (with_reducible assumption) | assumption)
                            have hx65 := bt_at (old_) (ji62)
                            replace p65 := eq_true p65
                            replace q65 := eq_true q65
                            have p69 : 0 ≤ ((ji66) : Int) := of_decide_eq_true (by first | (with_reducible assumption) | assumption)
                            have q69 : (ji66) < (((rd_T60 t412 x78_2).f1).size : Int) := of_decide_eq_true (by first | (with_reducible assumption) | assumption)
                            have hx69 := bt_at ((rd_T60 t412 x78_2).f1) (ji66)
                            replace p69 := eq_true p69
                            replace q69 := eq_true q69
                            go_wp2
                            repeat (go_quiet (fail); try go_wp2)
                            go_ret
                            exact ⟨by first | rfl | (simp [errW_none, errW_some] <;> rfl) | (simp only [← hji62, ← hji66]; first | rfl | (simp [errW_none, errW_some] <;> rfl)) | (simp [*, errW_none, errW_some] <;> rfl), pxb HB⟩
                           ·rw [if_neg c70] at H
                            have c70b0 : ((bt (old_) (ji62)) == (bt ((rd_T60 t412 x78_2).f1) (ji66))) = false := beq_eq_false_iff_ne.mpr c70
                            have c70b1 : ((bt (old_) (ji62)) != (bt ((rd_T60 t412 x78_2).f1) (ji66))) = true := bne_iff_ne.mpr c70
                            have H' := Aside0.mk H
                            clear H
                            have hcz72_0 : wc.cell? ⟨gb421, 0, none⟩ = some (.int .i64 ((rd_T60 t412 x78_2).f0.f0)) := (blk_cell BK421.out 0).trans rfl
                            have hcz72_1 : wc.cell? ⟨gb421, 1, none⟩ = some (.int .i64 ((rd_T60 t412 x78_2).f0.f1)) := (blk_cell BK421.out 1).trans rfl
                            have hcz72_2 : wc.cell? ⟨gb421, 2, none⟩ = some (.string ((rd_T60 t412 x78_2).f1)) := (blk_cell BK421.out 2).trans rfl
                            have hfz72_0 := blk_frozen BK421.out 0
                            have hfz72_1 := blk_frozen BK421.out 1
                            have hfz72_2 := blk_frozen BK421.out 2
                            have p57 : 0 ≤ (0 : Int) := (by omega)
                            have q57 : 0 < (old_).size := (by have : (0 : Int) < ((old_).size : Int) := of_decide_eq_true (by first | (with_reducible assumption) | assumption); omega)
                            have hx57 : ∀ h : 0 < (old_).size, (((old_)[0]'h).toNat : Int) = bt (old_) 0 := bt_at (old_) 0
                            clear p57
                            have qi57 : (0 < ((old_).size : Int)) = True := eq_true (of_decide_eq_true (by first | (with_reducible assumption) | assumption))
                            replace q57 := eq_true q57
                            have p59 : 0 ≤ (0 : Int) := (by omega)
                            have q59 : 0 < ((rd_T60 t412 x78_2).f1).size := (by have : (0 : Int) < (((rd_T60 t412 x78_2).f1).size : Int) := of_decide_eq_true (by first | (with_reducible assumption) | assumption); omega)
                            have hx59 : ∀ h : 0 < ((rd_T60 t412 x78_2).f1).size, ((((rd_T60 t412 x78_2).f1)[0]'h).toNat : Int) = bt ((rd_T60 t412 x78_2).f1) 0 := bt_at ((rd_T60 t412 x78_2).f1) 0
                            clear p59
                            have qi59 : (0 < (((rd_T60 t412 x78_2).f1).size : Int)) = True := eq_true (of_decide_eq_true (by first | (with_reducible assumption) | assumption))
                            replace q59 := eq_true q59
                            have p65 : 0 ≤ ((ji62) : Int) := of_decide_eq_true (by first | (with_reducible assumption) | assumption)
                            have q65 : (ji62) < ((old_).size : Int) := of_decide_eq_true (by first | (with_reducible assumption) | assumption)
                            have hx65 := bt_at (old_) (ji62)
                            replace p65 := eq_true p65
                            replace q65 := eq_true q65
                            have p69 : 0 ≤ ((ji66) : Int) := of_decide_eq_true (by first | (with_reducible assumption) | assumption)
                            have q69 : (ji66) < (((rd_T60 t412 x78_2).f1).size : Int) := of_decide_eq_true (by first | (with_reducible assumption) | assumption)
                            have hx69 := bt_at ((rd_T60 t412 x78_2).f1) (ji66)
                            replace p69 := eq_true p69
                            replace q69 := eq_true q69
                            go_wp2
                            repeat (go_quiet (fail); try go_wp2)
                            go_roundg kj34
                            case measure => have := HJ10.out; have := HK2.out; have := HJ34.out; omega
                            case rel => exact ⟨(wrap64 (x78_2 + 1)), (by first | rfl | (simp; done) | (simp [*]; done)), H', ⟨by have := HJ10.out; have := HK2.out; have := HJ34.out; omega⟩, ⟨by (with_reducible repeat (first | apply Kd.R_alloc | apply Kd.R_drewN | apply Kd.R_drew)); exact Kd.R_mono HO_7.out (fun _ hk => trivial)⟩, ⟨by (with_reducible repeat (first | apply Kd.R_alloc | apply Kd.R_drewN | apply Kd.R_drew)); exact Kd.R_mono HO_76.out (fun _ hk => trivial)⟩, ⟨pxb HB⟩⟩
                          ·rw [if_neg c68] at H
                           exact absurd H (by simp)
                         ·rw [if_neg c67] at H
                          exact absurd H (by simp)
                        ·rw [if_neg c64] at H
                         exact absurd H (by simp)
                       ·rw [if_neg c63] at H
                        exact absurd H (by simp)
                     ·rw [if_neg c58] at H
                      exact absurd H (by simp)
                    ·rw [if_neg c56] at H
                     exact absurd H (by simp)
              ·rw [if_neg c34] at H
               exact absurd H (by simp)
             ·rw [if_neg c33] at H
              exact absurd H (by simp)
            ·rw [if_neg c32] at H
             exact absurd H (by simp)
           ·rw [if_neg c31] at H
            exact absurd H (by simp)
          ·rw [if_neg c30] at H
           exact absurd H (by simp)
         ·rw [if_neg c29] at H
          have c29b0 : decide (x78_2 < (t412.length : Int)) = false := decide_eq_false c29
          clear c29
          replace H := Option.bind_eq_some_iff.mp H
          obtain ⟨⟨t424, t425⟩, A730, H⟩ := H
          replace H : (if t425 = 0 then (caulkerlaw03_EditTidies.j3 k2 t412 t424 ((t424.length : Int) != (t412.length : Int))) else (caulkerlaw03_EditTidies.j3 k2 t412 t424 true)) = some r := H
          have A73 := Aside0.mk A730
          clear A730
          have HC74 := Aside0.mk H
          clear H
          go_upto_region 22 with (first | (go_at_call 37; (with_reducible refine (edit_Tidy.calls k2 a0 _ _ t412 t424 t425 _ ?side1 ?side2 A73.out).mono ?_); (case side1 => repeat (first | exact (Kd.R_reads' HO_7.out).2.2 | (with_reducible refine Kd.C_alloc ?_ _) | (with_reducible refine Kd.C_drewN ?_ _) | (with_reducible refine Kd.C_drew ?_))); (case side2 => exact (Kd.R_reads' HO_7.out).2.1); rintro e w75 ⟨v426, rfl, ho0, hb⟩; have n0_ := Aside0.mk (Kd.R_elder' (pxr HO_7) (Kd.R_base ho0) hb); have n1_ := Aside0.mk (Kd.R_elder' (pxr HO_76) (Kd.R_base ho0) hb); have n2_ := Aside0.mk (Kd.R_lower (Kd.R_new' (Kd.R_new' ho0 (Kd.R_lt (pxr HO_7))) (Kd.R_lt (pxr HO_76))) (below_size (pxb HB))); have n3_ := pxs HB hb; clear HO_7; clear HO_76; clear HB; have HO_7 := n0_; have HO_76 := n1_; have HO427 := n2_; have HB := n3_; clear n0_ n1_ n2_ n3_; (try clear hb); (try clear hb2); (try clear hk); (try clear hi); (try clear ho0)))
          repeat (go_quiet (first | (go_at_call 37; (with_reducible refine (edit_Tidy.calls k2 a0 _ _ t412 t424 t425 _ ?side1 ?side2 A73.out).mono ?_); (case side1 => repeat (first | exact (Kd.R_reads' HO_7.out).2.2 | (with_reducible refine Kd.C_alloc ?_ _) | (with_reducible refine Kd.C_drewN ?_ _) | (with_reducible refine Kd.C_drew ?_))); (case side2 => exact (Kd.R_reads' HO_7.out).2.1); rintro e w75 ⟨v426, rfl, ho0, hb⟩; have n0_ := Aside0.mk (Kd.R_elder' (pxr HO_7) (Kd.R_base ho0) hb); have n1_ := Aside0.mk (Kd.R_elder' (pxr HO_76) (Kd.R_base ho0) hb); have n2_ := Aside0.mk (Kd.R_lower (Kd.R_new' (Kd.R_new' ho0 (Kd.R_lt (pxr HO_7))) (Kd.R_lt (pxr HO_76))) (below_size (pxb HB))); have n3_ := pxs HB hb; clear HO_7; clear HO_76; clear HB; have HO_7 := n0_; have HO_76 := n1_; have HO427 := n2_; have HB := n3_; clear n0_ n1_ n2_ n3_; (try clear hb); (try clear hb2); (try clear hk); (try clear hi); (try clear ho0))); go_upto_region 22 with (first | (go_at_call 37; (with_reducible refine (edit_Tidy.calls k2 a0 _ _ t412 t424 t425 _ ?side1 ?side2 A73.out).mono ?_); (case side1 => repeat (first | exact (Kd.R_reads' HO_7.out).2.2 | (with_reducible refine Kd.C_alloc ?_ _) | (with_reducible refine Kd.C_drewN ?_ _) | (with_reducible refine Kd.C_drew ?_))); (case side2 => exact (Kd.R_reads' HO_7.out).2.1); rintro e w75 ⟨v426, rfl, ho0, hb⟩; have n0_ := Aside0.mk (Kd.R_elder' (pxr HO_7) (Kd.R_base ho0) hb); have n1_ := Aside0.mk (Kd.R_elder' (pxr HO_76) (Kd.R_base ho0) hb); have n2_ := Aside0.mk (Kd.R_lower (Kd.R_new' (Kd.R_new' ho0 (Kd.R_lt (pxr HO_7))) (Kd.R_lt (pxr HO_76))) (below_size (pxb HB))); have n3_ := pxs HB hb; clear HO_7; clear HO_76; clear HB; have HO_7 := n0_; have HO_76 := n1_; have HO427 := n2_; have HB := n3_; clear n0_ n1_ n2_ n3_; (try clear hb); (try clear hb2); (try clear hk); (try clear hi); (try clear ho0))))
          (try simp only [Act.put, List.setIfInBounds_toArray, List.set_cons_zero, List.set_cons_succ])
          go_cut [160] (fun v160 wc => ∃ (kq : Nat) (x160_73 : Bool), v160 = .bool x160_73 ∧ Aside0 (caulkerlaw03_EditTidies.j3 kq t412 t424 x160_73 = some r) ∧ Aside0 (kq ≤ k2) ∧ Aside0 (Kd.R k60 60 wc w.heap.size (fun k_ => some k_ ≠ (v426 : Value).ownBlock) (.slice Ao16 t412.length co16) t412) ∧ Aside0 (Kd.R k60 60 wc w.heap.size (fun k_ => some k_ ≠ ((.slice Ao16 t412.length co16) : Value).ownBlock) v426 t424) ∧ Aside0 (Below w.heap.size w wc))
          case first =>
           have H := HC74.out
           clear HC74
           by_cases c76 : t425 = 0
           ·rw [if_pos c76] at H
            have c76b0 : (t425 == 0) = true := beq_iff_eq.mpr c76
            have c76b1 : (t425 != 0) = false := bne_eq_false_iff_eq.mpr c76
            clear c76
            (first | rw [c76b0] | (simp only [i64_w, i32_w]; rw [c76b0]) | skip)
            have H' := Aside0.mk H
            clear H
            obtain ⟨Ao77, co77, eo77⟩ := Kd.R_slice HO427.out
            subst eo77
            go_wp2
            repeat (go_quiet (fail); try go_wp2)
            go_meet
            case rel => exact ⟨_, (((t424.length : Int) != (t412.length : Int))), (by first | rfl | (simp; done) | (simp [*]; done)), H', ⟨by have := HJ10.out; have := HK2.out; first | omega | exact Nat.le_refl _⟩, ⟨by (with_reducible repeat (first | apply Kd.R_alloc | apply Kd.R_drewN | apply Kd.R_drew)); exact Kd.R_mono HO_7.out (fun _ hk => hk.2)⟩, ⟨by (with_reducible repeat (first | apply Kd.R_alloc | apply Kd.R_drewN | apply Kd.R_drew)); exact Kd.R_mono HO427.out (fun _ hk => hk.1.2)⟩, ⟨pxb HB⟩⟩
           ·rw [if_neg c76] at H
            have c76b0 : (t425 == 0) = false := beq_eq_false_iff_ne.mpr c76
            have c76b1 : (t425 != 0) = true := bne_iff_ne.mpr c76
            (first | rw [c76b0] | (simp only [i64_w, i32_w]; rw [c76b0]) | skip)
            have H' := Aside0.mk H
            clear H
            go_wp2
            repeat (go_quiet (fail); try go_wp2)
            go_meet
            case rel => exact ⟨_, (true), (by first | rfl | (simp; done) | (simp [*]; done)), H', ⟨by have := HJ10.out; have := HK2.out; first | omega | exact Nat.le_refl _⟩, ⟨by (with_reducible repeat (first | apply Kd.R_alloc | apply Kd.R_drewN | apply Kd.R_drew)); exact Kd.R_mono HO_7.out (fun _ hk => hk.2)⟩, ⟨by (with_reducible repeat (first | apply Kd.R_alloc | apply Kd.R_drewN | apply Kd.R_drew)); exact Kd.R_mono HO427.out (fun _ hk => hk.1.2)⟩, ⟨pxb HB⟩⟩
          case rest => as_aux_lemma =>
           clear HC74
           try clear c1
           try clear c2
           try clear p2
           try clear c3
           try clear c4
           try clear p4
           try clear q4
           try clear hx4
           try clear c5
           try clear p5
           try clear q5
           try clear hx5
           try clear qi5
           try clear c6
           try clear p6
           try clear q6
           try clear hx6
           try clear c7
           try clear c9
           try clear c9b0
           try clear c9b1
           try clear c12
           try clear c18
           try clear c18b0
           try clear c18b1
           try clear c19
           try clear c19b0
           try clear c19b1
           try clear c20
           try clear c20b0
           try clear c20b1
           try clear c23
           try clear c23b0
           try clear c28
           try clear c29
           try clear c29b0
           try clear c30
           try clear c30b0
           try clear c31
           try clear c31b0
           try clear c32
           try clear c32b0
           try clear c32b1
           try clear c33
           try clear c33b0
           try clear c33b1
           try clear c34
           try clear c34b0
           try clear c34b1
           try clear c38
           try clear c38b0
           try clear c38b1
           try clear c39
           try clear c39b0
           try clear c39b1
           try clear c41
           try clear c41b0
           try clear p42
           try clear q42
           try clear hx42
           try clear c43
           try clear c43b0
           try clear c44
           try clear c44b0
           try clear c47
           try clear c47b0
           try clear c49
           try clear c49b0
           try clear c50
           try clear c50b0
           try clear c52
           try clear c53
           try clear c53b0
           try clear c53b1
           try clear c54
           try clear c54b0
           try clear c54b1
           try clear c56
           try clear c56b0
           try clear c56b1
           try clear p57
           try clear q57
           try clear hx57
           try clear qi57
           try clear c58
           try clear c58b0
           try clear c58b1
           try clear p59
           try clear q59
           try clear hx59
           try clear qi59
           try clear c60
           try clear c60b0
           try clear c60b1
           try clear c63
           try clear c63b0
           try clear c64
           try clear c64b0
           try clear p64
           try clear p65
           try clear q65
           try clear hx65
           try clear c67
           try clear c67b0
           try clear c68
           try clear c68b0
           try clear p69
           try clear q69
           try clear hx69
           try clear c70
           try clear c70b0
           try clear c70b1
           try clear c76
           try clear c76b0
           try clear c76b1
           try clear hcz37_0
           try clear hcz37_1
           try clear hcz37_2
           try clear hcz40_0
           try clear hcz40_1
           try clear hcz40_2
           try clear hcz45_0
           try clear hcz45_1
           try clear hcz45_2
           try clear hcz46_0
           try clear hcz46_1
           try clear hcz46_2
           try clear hcz51_0
           try clear hcz51_1
           try clear hcz51_2
           try clear hcz55_0
           try clear hcz55_1
           try clear hcz55_2
           try clear hcz61_0
           try clear hcz61_1
           try clear hcz61_2
           try clear hcz71_0
           try clear hcz71_1
           try clear hcz71_2
           try clear hcz72_0
           try clear hcz72_1
           try clear hcz72_2
           try clear hfz37_0
           try clear hfz37_1
           try clear hfz37_2
           try clear hfz40_0
           try clear hfz40_1
           try clear hfz40_2
           try clear hfz45_0
           try clear hfz45_1
           try clear hfz45_2
           try clear hfz46_0
           try clear hfz46_1
           try clear hfz46_2
           try clear hfz51_0
           try clear hfz51_1
           try clear hfz51_2
           try clear hfz55_0
           try clear hfz55_1
           try clear hfz55_2
           try clear hfz61_0
           try clear hfz61_1
           try clear hfz61_2
           try clear hfz71_0
           try clear hfz71_1
           try clear hfz71_2
           try clear hfz72_0
           try clear hfz72_1
           try clear hfz72_2
           try clear hx420_0
           try clear hx420_1
           try clear hx420_2
           try clear hx422_0
           try clear hx422_1
           try clear hx422_2
           try clear hx423_0
           try clear hx423_1
           try clear hx423_2
           try clear p2
           try clear p4
           try clear p42
           try clear p420
           try clear p422
           try clear p423
           try clear p57
           try clear p59
           try clear p6
           try clear p65
           try clear p69
           try clear q4
           try clear q42
           try clear q420
           try clear q422
           try clear q423
           try clear q57
           try clear q59
           try clear q65
           try clear q69
           obtain ⟨kq, x160_73, rfl, HA, HJ73, HO_7, HO_14, HB⟩ := hcut
           cases kq with
           | zero => exact absurd HA.out (by simp [caulkerlaw03_EditTidies.j3])
           | succ kj73 =>
            have H := HA.out
            clear HA
            simp only [caulkerlaw03_EditTidies.j3] at H
            by_cases c78 : x160_73 = true
            ·subst c78
             have H1 : (some false) = some r := by rw [if_pos rfl] at H; exact H
             clear H
             have H := H1
             clear H1
             obtain rfl := Option.some.inj H
             go_wp2
             repeat (go_quiet (fail); try go_wp2)
             go_ret
             exact ⟨by first | rfl | (simp [errW_none, errW_some] <;> rfl) | (simp [*, errW_none, errW_some] <;> rfl), pxb HB⟩
            ·replace c78 := Bool.eq_false_iff.mpr c78
             subst c78
             have H1 : (caulkerlaw03_EditTidies.l1 kj73 t412 t424 (t424.length : Int) 0) = some r := by rw [if_neg (show ¬ (false = true) by decide)] at H; exact H
             clear H
             have H := H1
             clear H1
             have H' := Aside0.mk H
             clear H
             obtain ⟨Ao79, co79, eo79⟩ := Kd.R_slice HO_14.out
             subst eo79
             go_wp2
             repeat (go_quiet (fail); try go_wp2)
             go_loopg [163] kj73 (fun kq v163 w' => ∃ (x163_4 : Int), v163 = .int .i64 x163_4 ∧ Aside0 (caulkerlaw03_EditTidies.l1 kq t412 t424 (t424.length : Int) x163_4 = some r) ∧ Aside0 (kq ≤ kj73) ∧ Aside0 (Kd.R k60 60 w' w.heap.size (fun k_ => some k_ ≠ ((.slice Ao79 t424.length co79) : Value).ownBlock) (.slice Ao16 t412.length co16) t412) ∧ Aside0 (Kd.R k60 60 w' w.heap.size (fun k_ => some k_ ≠ ((.slice Ao16 t412.length co16) : Value).ownBlock) (.slice Ao79 t424.length co79) t424) ∧ Aside0 (Below w.heap.size w w'))
             case atStart => exact ⟨(0), (by first | rfl | (simp; done) | (simp [*]; done)), H', ⟨Nat.le_refl _⟩, ⟨pxr HO_7⟩, ⟨pxr HO_14⟩, ⟨pxb HB⟩⟩
             case round =>
              clear H'
              try clear c1
              try clear c2
              try clear p2
              try clear c3
              try clear c4
              try clear p4
              try clear q4
              try clear hx4
              try clear c5
              try clear p5
              try clear q5
              try clear hx5
              try clear qi5
              try clear c6
              try clear p6
              try clear q6
              try clear hx6
              try clear c7
              try clear c9
              try clear c9b0
              try clear c9b1
              try clear c12
              try clear c18
              try clear c18b0
              try clear c18b1
              try clear c19
              try clear c19b0
              try clear c19b1
              try clear c20
              try clear c20b0
              try clear c20b1
              try clear c23
              try clear c23b0
              try clear c28
              try clear c29
              try clear c29b0
              try clear c30
              try clear c30b0
              try clear c31
              try clear c31b0
              try clear c32
              try clear c32b0
              try clear c32b1
              try clear c33
              try clear c33b0
              try clear c33b1
              try clear c34
              try clear c34b0
              try clear c34b1
              try clear c38
              try clear c38b0
              try clear c38b1
              try clear c39
              try clear c39b0
              try clear c39b1
              try clear c41
              try clear c41b0
              try clear p42
              try clear q42
              try clear hx42
              try clear c43
              try clear c43b0
              try clear c44
              try clear c44b0
              try clear c47
              try clear c47b0
              try clear c49
              try clear c49b0
              try clear c50
              try clear c50b0
              try clear c52
              try clear c53
              try clear c53b0
              try clear c53b1
              try clear c54
              try clear c54b0
              try clear c54b1
              try clear c56
              try clear c56b0
              try clear c56b1
              try clear p57
              try clear q57
              try clear hx57
              try clear qi57
              try clear c58
              try clear c58b0
              try clear c58b1
              try clear p59
              try clear q59
              try clear hx59
              try clear qi59
              try clear c60
              try clear c60b0
              try clear c60b1
              try clear c63
              try clear c63b0
              try clear c64
              try clear c64b0
              try clear p64
              try clear p65
              try clear q65
              try clear hx65
              try clear c67
              try clear c67b0
              try clear c68
              try clear c68b0
              try clear p69
              try clear q69
              try clear hx69
              try clear c70
              try clear c70b0
              try clear c70b1
              try clear c76
              try clear c76b0
              try clear c76b1
              try clear c78
              try clear hcz37_0
              try clear hcz37_1
              try clear hcz37_2
              try clear hcz40_0
              try clear hcz40_1
              try clear hcz40_2
              try clear hcz45_0
              try clear hcz45_1
              try clear hcz45_2
              try clear hcz46_0
              try clear hcz46_1
              try clear hcz46_2
              try clear hcz51_0
              try clear hcz51_1
              try clear hcz51_2
              try clear hcz55_0
              try clear hcz55_1
              try clear hcz55_2
              try clear hcz61_0
              try clear hcz61_1
              try clear hcz61_2
              try clear hcz71_0
              try clear hcz71_1
              try clear hcz71_2
              try clear hcz72_0
              try clear hcz72_1
              try clear hcz72_2
              try clear hfz37_0
              try clear hfz37_1
              try clear hfz37_2
              try clear hfz40_0
              try clear hfz40_1
              try clear hfz40_2
              try clear hfz45_0
              try clear hfz45_1
              try clear hfz45_2
              try clear hfz46_0
              try clear hfz46_1
              try clear hfz46_2
              try clear hfz51_0
              try clear hfz51_1
              try clear hfz51_2
              try clear hfz55_0
              try clear hfz55_1
              try clear hfz55_2
              try clear hfz61_0
              try clear hfz61_1
              try clear hfz61_2
              try clear hfz71_0
              try clear hfz71_1
              try clear hfz71_2
              try clear hfz72_0
              try clear hfz72_1
              try clear hfz72_2
              try clear hx420_0
              try clear hx420_1
              try clear hx420_2
              try clear hx422_0
              try clear hx422_1
              try clear hx422_2
              try clear hx423_0
              try clear hx423_1
              try clear hx423_2
              try clear p2
              try clear p4
              try clear p42
              try clear p420
              try clear p422
              try clear p423
              try clear p5
              try clear p57
              try clear p59
              try clear p6
              try clear p64
              try clear p65
              try clear p69
              try clear q4
              try clear q42
              try clear q420
              try clear q422
              try clear q423
              try clear q5
              try clear q57
              try clear q59
              try clear q6
              try clear q65
              try clear q69
              obtain ⟨x163_4, rfl, HA, HK4, HO_7, HO_14, HB⟩ := hrel
              cases gk with
              | zero => exact absurd HA.out (by simp [caulkerlaw03_EditTidies.l1])
              | succ k4 =>
               have H := HA.out
               clear HA
               simp only [caulkerlaw03_EditTidies.l1] at H
               by_cases c80 : x163_4 < (t424.length : Int)
               ·rw [if_pos c80] at H
                have c80b0 : decide (x163_4 < (t424.length : Int)) = true := decide_eq_true c80
                clear c80
                by_cases c81 : 0 ≤ x163_4
                ·rw [if_pos c81] at H
                 have c81b0 : decide (0 ≤ x163_4) = true := decide_eq_true c81
                 clear c81
                 by_cases c82 : x163_4 < (t424.length : Int)
                 ·rw [if_pos c82] at H
                  have c82b0 : decide (x163_4 < (t424.length : Int)) = true := decide_eq_true c82
                  clear c82
                  by_cases c83 : x163_4 < (t412.length : Int)
                  ·rw [if_pos c83] at H
                   have c83b0 : decide (x163_4 < (t412.length : Int)) = true := decide_eq_true c83
                   clear c83
                   by_cases c84 : ((!(((rd_T60 t424 x163_4).f0.f0) == ((rd_T60 t412 x163_4).f0.f0)) || (!(((rd_T60 t424 x163_4).f0.f1) == ((rd_T60 t412 x163_4).f0.f1)))) || (!((((rd_T60 t424 x163_4).f1).toList) == (((rd_T60 t412 x163_4).f1).toList)))) = true
                   ·rw [if_pos c84] at H
                    have c84b0 : ((!(((rd_T60 t424 x163_4).f0.f0) == ((rd_T60 t412 x163_4).f0.f0)) || (!(((rd_T60 t424 x163_4).f0.f1) == ((rd_T60 t412 x163_4).f0.f1)))) || (!((((rd_T60 t424 x163_4).f1).toList) == (((rd_T60 t412 x163_4).f1).toList)))) = true := c84
                    clear c84
                    obtain rfl := Option.some.inj H
                    have p428 : 0 ≤ (x163_4 : Int) := of_decide_eq_true (by first | (with_reducible assumption) | assumption)
                    have q428 : x163_4 < (t424.length : Int) := of_decide_eq_true (by first | (with_reducible assumption) | assumption)
                    obtain ⟨ad428, e428, hx428_0, hx428_1, hx428_2⟩ := at_T60 (Kd.R_reads' HO_14.out).2.2 x163_4 p428 q428
                    cases e428
                    replace p428 := eq_true p428
                    replace q428 := eq_true q428
                    have p429 : 0 ≤ (x163_4 : Int) := of_decide_eq_true (by first | (with_reducible assumption) | assumption)
                    have q429 : x163_4 < (t412.length : Int) := of_decide_eq_true (by first | (with_reducible assumption) | assumption)
                    obtain ⟨ad429, e429, hx429_0, hx429_1, hx429_2⟩ := at_T60 (Kd.R_reads' HO_7.out).2.2 x163_4 p429 q429
                    cases e429
                    replace p429 := eq_true p429
                    replace q429 := eq_true q429
                    go_wp2
                    repeat (go_quiet (fail); try go_wp2)
                    go_ret
                    exact ⟨by first | rfl | (simp [errW_none, errW_some] <;> rfl) | (simp [*, errW_none, errW_some] <;> rfl), pxb HB⟩
                   ·rw [if_neg c84] at H
                    have c84b0 : ((!(((rd_T60 t424 x163_4).f0.f0) == ((rd_T60 t412 x163_4).f0.f0)) || (!(((rd_T60 t424 x163_4).f0.f1) == ((rd_T60 t412 x163_4).f0.f1)))) || (!((((rd_T60 t424 x163_4).f1).toList) == (((rd_T60 t412 x163_4).f1).toList)))) = false := by simpa using c84
                    clear c84
                    have H' := Aside0.mk H
                    clear H
                    have p428 : 0 ≤ (x163_4 : Int) := of_decide_eq_true (by first | (with_reducible assumption) | assumption)
                    have q428 : x163_4 < (t424.length : Int) := of_decide_eq_true (by first | (with_reducible assumption) | assumption)
                    obtain ⟨ad428, e428, hx428_0, hx428_1, hx428_2⟩ := at_T60 (Kd.R_reads' HO_14.out).2.2 x163_4 p428 q428
                    cases e428
                    replace p428 := eq_true p428
                    replace q428 := eq_true q428
                    have p429 : 0 ≤ (x163_4 : Int) := of_decide_eq_true (by first | (with_reducible assumption) | assumption)
                    have q429 : x163_4 < (t412.length : Int) := of_decide_eq_true (by first | (with_reducible assumption) | assumption)
                    obtain ⟨ad429, e429, hx429_0, hx429_1, hx429_2⟩ := at_T60 (Kd.R_reads' HO_7.out).2.2 x163_4 p429 q429
                    cases e429
                    replace p429 := eq_true p429
                    replace q429 := eq_true q429
                    go_wp2
                    repeat (go_quiet (fail); try go_wp2)
                    go_roundg k4
                    case measure => have := HJ10.out; have := HK2.out; have := HJ73.out; have := HK4.out; omega
                    case rel => exact ⟨(wrap64 (x163_4 + 1)), (by first | rfl | (simp; done) | (simp [*]; done)), H', ⟨by have := HJ10.out; have := HK2.out; have := HJ73.out; have := HK4.out; omega⟩, ⟨pxr HO_7⟩, ⟨pxr HO_14⟩, ⟨pxb HB⟩⟩
                  ·rw [if_neg c83] at H
                   exact absurd H (by simp)
                 ·rw [if_neg c82] at H
                  exact absurd H (by simp)
                ·rw [if_neg c81] at H
                 exact absurd H (by simp)
               ·rw [if_neg c80] at H
                have c80b0 : decide (x163_4 < (t424.length : Int)) = false := decide_eq_false c80
                clear c80
                obtain rfl := Option.some.inj H
                go_wp2
                repeat (go_quiet (fail); try go_wp2)
                go_ret
                exact ⟨by first | rfl | (simp [errW_none, errW_some] <;> rfl) | (simp [*, errW_none, errW_some] <;> rfl), pxb HB⟩
   ·rw [if_neg c9] at H
    have c9b0 : (t411 == 0) = false := beq_eq_false_iff_ne.mpr c9
    have c9b1 : (t411 != 0) = true := bne_iff_ne.mpr c9
    by_cases c85 : t413 = t411
    ·rw [if_pos c85] at H
     have c85b0 : (t413 == t411) = true := beq_iff_eq.mpr c85
     have c85b1 : (t413 != t411) = false := bne_eq_false_iff_eq.mpr c85
     clear c85
     obtain rfl := Option.some.inj H
     go_enter Try.func12, Try.ntmps12
     go_wp2_with (first | (go_at_call 29; (with_reducible refine (caulkerlaw03_edits.calls k  true _ A3.out).mono ?_); rintro e w86 ⟨rfl, hb⟩; have n0_ := pxs HB hb; clear HB; have HB := n0_; clear n0_; (try clear hb); (try clear hb2); (try clear hk); (try clear hi)) | (go_at_call 30; (with_reducible refine (caulkerlaw03_small.calls k a0 _ _ l1 true _ ?side1 ?side2 A5.out).mono ?_); (case side1 => exact pxc HR1 HB); (case side2 => exact HC1.out); rintro e w87 ⟨rfl, hb⟩; have n0_ := pxs HB hb; clear HB; have HB := n0_; clear n0_; (try clear hb); (try clear hb2); (try clear hk); (try clear hi)) | (go_at_call 32; (with_reducible refine (caulkerref03_Apply.calls k a0 _ _ l1 t410 t411 _ ?side1 ?side2 A7.out).mono ?_); (case side1 => exact pxc HR1 HB); (case side2 => exact HC1.out); rintro e w88 ⟨rfl, hb⟩; have n0_ := pxs HB hb; clear HB; have HB := n0_; clear n0_; (try clear hb); (try clear hb2); (try clear hk); (try clear hi)) | (go_at_call 37; (with_reducible refine (edit_Tidy.calls k a0 _ _ l1 t412 t413 _ ?side1 ?side2 A8.out).mono ?_); (case side1 => exact pxc HR1 HB); (case side2 => exact HC1.out); rintro e w89 ⟨v414, rfl, ho0, hb⟩; have n0_ := Aside0.mk (Kd.R_lower ho0 (below_size (pxb HB))); have n1_ := pxs HB hb; clear HB; have HO415 := n0_; have HB := n1_; clear n0_ n1_; (try clear hb); (try clear hb2); (try clear hk); (try clear hi); (try clear ho0); obtain ⟨Ao90, co90, eo90⟩ := Kd.R_slice HO415.out; subst eo90))
     repeat (go_quiet (first | (go_at_call 29; (with_reducible refine (caulkerlaw03_edits.calls k  true _ A3.out).mono ?_); rintro e w86 ⟨rfl, hb⟩; have n0_ := pxs HB hb; clear HB; have HB := n0_; clear n0_; (try clear hb); (try clear hb2); (try clear hk); (try clear hi)) | (go_at_call 30; (with_reducible refine (caulkerlaw03_small.calls k a0 _ _ l1 true _ ?side1 ?side2 A5.out).mono ?_); (case side1 => exact pxc HR1 HB); (case side2 => exact HC1.out); rintro e w87 ⟨rfl, hb⟩; have n0_ := pxs HB hb; clear HB; have HB := n0_; clear n0_; (try clear hb); (try clear hb2); (try clear hk); (try clear hi)) | (go_at_call 32; (with_reducible refine (caulkerref03_Apply.calls k a0 _ _ l1 t410 t411 _ ?side1 ?side2 A7.out).mono ?_); (case side1 => exact pxc HR1 HB); (case side2 => exact HC1.out); rintro e w88 ⟨rfl, hb⟩; have n0_ := pxs HB hb; clear HB; have HB := n0_; clear n0_; (try clear hb); (try clear hb2); (try clear hk); (try clear hi)) | (go_at_call 37; (with_reducible refine (edit_Tidy.calls k a0 _ _ l1 t412 t413 _ ?side1 ?side2 A8.out).mono ?_); (case side1 => exact pxc HR1 HB); (case side2 => exact HC1.out); rintro e w89 ⟨v414, rfl, ho0, hb⟩; have n0_ := Aside0.mk (Kd.R_lower ho0 (below_size (pxb HB))); have n1_ := pxs HB hb; clear HB; have HO415 := n0_; have HB := n1_; clear n0_ n1_; (try clear hb); (try clear hb2); (try clear hk); (try clear hi); (try clear ho0); obtain ⟨Ao90, co90, eo90⟩ := Kd.R_slice HO415.out; subst eo90)); try go_wp2_with (first | (go_at_call 29; (with_reducible refine (caulkerlaw03_edits.calls k  true _ A3.out).mono ?_); rintro e w86 ⟨rfl, hb⟩; have n0_ := pxs HB hb; clear HB; have HB := n0_; clear n0_; (try clear hb); (try clear hb2); (try clear hk); (try clear hi)) | (go_at_call 30; (with_reducible refine (caulkerlaw03_small.calls k a0 _ _ l1 true _ ?side1 ?side2 A5.out).mono ?_); (case side1 => exact pxc HR1 HB); (case side2 => exact HC1.out); rintro e w87 ⟨rfl, hb⟩; have n0_ := pxs HB hb; clear HB; have HB := n0_; clear n0_; (try clear hb); (try clear hb2); (try clear hk); (try clear hi)) | (go_at_call 32; (with_reducible refine (caulkerref03_Apply.calls k a0 _ _ l1 t410 t411 _ ?side1 ?side2 A7.out).mono ?_); (case side1 => exact pxc HR1 HB); (case side2 => exact HC1.out); rintro e w88 ⟨rfl, hb⟩; have n0_ := pxs HB hb; clear HB; have HB := n0_; clear n0_; (try clear hb); (try clear hb2); (try clear hk); (try clear hi)) | (go_at_call 37; (with_reducible refine (edit_Tidy.calls k a0 _ _ l1 t412 t413 _ ?side1 ?side2 A8.out).mono ?_); (case side1 => exact pxc HR1 HB); (case side2 => exact HC1.out); rintro e w89 ⟨v414, rfl, ho0, hb⟩; have n0_ := Aside0.mk (Kd.R_lower ho0 (below_size (pxb HB))); have n1_ := pxs HB hb; clear HB; have HO415 := n0_; have HB := n1_; clear n0_ n1_; (try clear hb); (try clear hb2); (try clear hk); (try clear hi); (try clear ho0); obtain ⟨Ao90, co90, eo90⟩ := Kd.R_slice HO415.out; subst eo90)))
     go_ret
     exact ⟨by first | rfl | (simp [errW_none, errW_some] <;> rfl) | (simp [*, errW_none, errW_some] <;> rfl), pxb HB⟩
    ·rw [if_neg c85] at H
     have c85b0 : (t413 == t411) = false := beq_eq_false_iff_ne.mpr c85
     have c85b1 : (t413 != t411) = true := bne_iff_ne.mpr c85
     obtain rfl := Option.some.inj H
     go_enter Try.func12, Try.ntmps12
     go_wp2_with (first | (go_at_call 29; (with_reducible refine (caulkerlaw03_edits.calls k  true _ A3.out).mono ?_); rintro e w91 ⟨rfl, hb⟩; have n0_ := pxs HB hb; clear HB; have HB := n0_; clear n0_; (try clear hb); (try clear hb2); (try clear hk); (try clear hi)) | (go_at_call 30; (with_reducible refine (caulkerlaw03_small.calls k a0 _ _ l1 true _ ?side1 ?side2 A5.out).mono ?_); (case side1 => exact pxc HR1 HB); (case side2 => exact HC1.out); rintro e w92 ⟨rfl, hb⟩; have n0_ := pxs HB hb; clear HB; have HB := n0_; clear n0_; (try clear hb); (try clear hb2); (try clear hk); (try clear hi)) | (go_at_call 32; (with_reducible refine (caulkerref03_Apply.calls k a0 _ _ l1 t410 t411 _ ?side1 ?side2 A7.out).mono ?_); (case side1 => exact pxc HR1 HB); (case side2 => exact HC1.out); rintro e w93 ⟨rfl, hb⟩; have n0_ := pxs HB hb; clear HB; have HB := n0_; clear n0_; (try clear hb); (try clear hb2); (try clear hk); (try clear hi)) | (go_at_call 37; (with_reducible refine (edit_Tidy.calls k a0 _ _ l1 t412 t413 _ ?side1 ?side2 A8.out).mono ?_); (case side1 => exact pxc HR1 HB); (case side2 => exact HC1.out); rintro e w94 ⟨v414, rfl, ho0, hb⟩; have n0_ := Aside0.mk (Kd.R_lower ho0 (below_size (pxb HB))); have n1_ := pxs HB hb; clear HB; have HO415 := n0_; have HB := n1_; clear n0_ n1_; (try clear hb); (try clear hb2); (try clear hk); (try clear hi); (try clear ho0)))
     repeat (go_quiet (first | (go_at_call 29; (with_reducible refine (caulkerlaw03_edits.calls k  true _ A3.out).mono ?_); rintro e w91 ⟨rfl, hb⟩; have n0_ := pxs HB hb; clear HB; have HB := n0_; clear n0_; (try clear hb); (try clear hb2); (try clear hk); (try clear hi)) | (go_at_call 30; (with_reducible refine (caulkerlaw03_small.calls k a0 _ _ l1 true _ ?side1 ?side2 A5.out).mono ?_); (case side1 => exact pxc HR1 HB); (case side2 => exact HC1.out); rintro e w92 ⟨rfl, hb⟩; have n0_ := pxs HB hb; clear HB; have HB := n0_; clear n0_; (try clear hb); (try clear hb2); (try clear hk); (try clear hi)) | (go_at_call 32; (with_reducible refine (caulkerref03_Apply.calls k a0 _ _ l1 t410 t411 _ ?side1 ?side2 A7.out).mono ?_); (case side1 => exact pxc HR1 HB); (case side2 => exact HC1.out); rintro e w93 ⟨rfl, hb⟩; have n0_ := pxs HB hb; clear HB; have HB := n0_; clear n0_; (try clear hb); (try clear hb2); (try clear hk); (try clear hi)) | (go_at_call 37; (with_reducible refine (edit_Tidy.calls k a0 _ _ l1 t412 t413 _ ?side1 ?side2 A8.out).mono ?_); (case side1 => exact pxc HR1 HB); (case side2 => exact HC1.out); rintro e w94 ⟨v414, rfl, ho0, hb⟩; have n0_ := Aside0.mk (Kd.R_lower ho0 (below_size (pxb HB))); have n1_ := pxs HB hb; clear HB; have HO415 := n0_; have HB := n1_; clear n0_ n1_; (try clear hb); (try clear hb2); (try clear hk); (try clear hi); (try clear ho0))); try go_wp2_with (first | (go_at_call 29; (with_reducible refine (caulkerlaw03_edits.calls k  true _ A3.out).mono ?_); rintro e w91 ⟨rfl, hb⟩; have n0_ := pxs HB hb; clear HB; have HB := n0_; clear n0_; (try clear hb); (try clear hb2); (try clear hk); (try clear hi)) | (go_at_call 30; (with_reducible refine (caulkerlaw03_small.calls k a0 _ _ l1 true _ ?side1 ?side2 A5.out).mono ?_); (case side1 => exact pxc HR1 HB); (case side2 => exact HC1.out); rintro e w92 ⟨rfl, hb⟩; have n0_ := pxs HB hb; clear HB; have HB := n0_; clear n0_; (try clear hb); (try clear hb2); (try clear hk); (try clear hi)) | (go_at_call 32; (with_reducible refine (caulkerref03_Apply.calls k a0 _ _ l1 t410 t411 _ ?side1 ?side2 A7.out).mono ?_); (case side1 => exact pxc HR1 HB); (case side2 => exact HC1.out); rintro e w93 ⟨rfl, hb⟩; have n0_ := pxs HB hb; clear HB; have HB := n0_; clear n0_; (try clear hb); (try clear hb2); (try clear hk); (try clear hi)) | (go_at_call 37; (with_reducible refine (edit_Tidy.calls k a0 _ _ l1 t412 t413 _ ?side1 ?side2 A8.out).mono ?_); (case side1 => exact pxc HR1 HB); (case side2 => exact HC1.out); rintro e w94 ⟨v414, rfl, ho0, hb⟩; have n0_ := Aside0.mk (Kd.R_lower ho0 (below_size (pxb HB))); have n1_ := pxs HB hb; clear HB; have HO415 := n0_; have HB := n1_; clear n0_ n1_; (try clear hb); (try clear hb2); (try clear hk); (try clear hi); (try clear ho0))))
     go_ret
     exact ⟨by first | rfl | (simp [errW_none, errW_some] <;> rfl) | (simp [*, errW_none, errW_some] <;> rfl), pxb HB⟩
  ·replace c6 := Bool.eq_false_iff.mpr c6
   subst c6
   have H1 : (some true) = some r := by rw [if_neg (show ¬ (false = true) by decide)] at H; exact H
   clear H
   have H := H1
   clear H1
   obtain rfl := Option.some.inj H
   go_enter Try.func12, Try.ntmps12
   go_wp2_with (first | (go_at_call 29; (with_reducible refine (caulkerlaw03_edits.calls k  true _ A3.out).mono ?_); rintro e w95 ⟨rfl, hb⟩; have n0_ := pxs HB hb; clear HB; have HB := n0_; clear n0_; (try clear hb); (try clear hb2); (try clear hk); (try clear hi)) | (go_at_call 30; (with_reducible refine (caulkerlaw03_small.calls k a0 _ _ l1 false _ ?side1 ?side2 A5.out).mono ?_); (case side1 => exact pxc HR1 HB); (case side2 => exact HC1.out); rintro e w96 ⟨rfl, hb⟩; have n0_ := pxs HB hb; clear HB; have HB := n0_; clear n0_; (try clear hb); (try clear hb2); (try clear hk); (try clear hi)))
   repeat (go_quiet (first | (go_at_call 29; (with_reducible refine (caulkerlaw03_edits.calls k  true _ A3.out).mono ?_); rintro e w95 ⟨rfl, hb⟩; have n0_ := pxs HB hb; clear HB; have HB := n0_; clear n0_; (try clear hb); (try clear hb2); (try clear hk); (try clear hi)) | (go_at_call 30; (with_reducible refine (caulkerlaw03_small.calls k a0 _ _ l1 false _ ?side1 ?side2 A5.out).mono ?_); (case side1 => exact pxc HR1 HB); (case side2 => exact HC1.out); rintro e w96 ⟨rfl, hb⟩; have n0_ := pxs HB hb; clear HB; have HB := n0_; clear n0_; (try clear hb); (try clear hb2); (try clear hk); (try clear hi))); try go_wp2_with (first | (go_at_call 29; (with_reducible refine (caulkerlaw03_edits.calls k  true _ A3.out).mono ?_); rintro e w95 ⟨rfl, hb⟩; have n0_ := pxs HB hb; clear HB; have HB := n0_; clear n0_; (try clear hb); (try clear hb2); (try clear hk); (try clear hi)) | (go_at_call 30; (with_reducible refine (caulkerlaw03_small.calls k a0 _ _ l1 false _ ?side1 ?side2 A5.out).mono ?_); (case side1 => exact pxc HR1 HB); (case side2 => exact HC1.out); rintro e w96 ⟨rfl, hb⟩; have n0_ := pxs HB hb; clear HB; have HB := n0_; clear n0_; (try clear hb); (try clear hb2); (try clear hk); (try clear hi))))
   go_ret
   exact ⟨by first | rfl | (simp [errW_none, errW_some] <;> rfl) | (simp [*, errW_none, errW_some] <;> rfl), pxb HB⟩
 ·replace c4 := Bool.eq_false_iff.mpr c4
  subst c4
  have H1 : (some false) = some r := by rw [if_neg (show ¬ (false = true) by decide)] at H; exact H
  clear H
  have H := H1
  clear H1
  obtain rfl := Option.some.inj H
  go_enter Try.func12, Try.ntmps12
  go_wp2_with (first | (go_at_call 29; (with_reducible refine (caulkerlaw03_edits.calls k  false _ A3.out).mono ?_); rintro e w97 ⟨rfl, hb⟩; have n0_ := pxs HB hb; clear HB; have HB := n0_; clear n0_; (try clear hb); (try clear hb2); (try clear hk); (try clear hi)))
  repeat (go_quiet (first | (go_at_call 29; (with_reducible refine (caulkerlaw03_edits.calls k  false _ A3.out).mono ?_); rintro e w97 ⟨rfl, hb⟩; have n0_ := pxs HB hb; clear HB; have HB := n0_; clear n0_; (try clear hb); (try clear hb2); (try clear hk); (try clear hi))); try go_wp2_with (first | (go_at_call 29; (with_reducible refine (caulkerlaw03_edits.calls k  false _ A3.out).mono ?_); rintro e w97 ⟨rfl, hb⟩; have n0_ := pxs HB hb; clear HB; have HB := n0_; clear n0_; (try clear hb); (try clear hb2); (try clear hk); (try clear hi))))
  go_ret
  exact ⟨by first | rfl | (simp [errW_none, errW_some] <;> rfl) | (simp [*, errW_none, errW_some] <;> rfl), pxb HB⟩

/-- THE ONE PURE STATEMENT of caulkerlaw03_EditTidies. -/
def caulkerlaw03_EditTidies.Pure : Prop := ∀ (a0 : ByteArray) (l1 : List (S60)), a0.size ≤ 140737488351232 → l1.length ≤ 9223372036854775807 → l1.length * 32 ≤ 140737488351232 → (∀ y ∈ l1, good60 y) → ∃ k, caulkerlaw03_EditTidies.f k a0 l1 = some true

end Go.Proofs.Ytfnemjejfccecaa.X
