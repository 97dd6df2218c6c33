/- What the program's functions answer, as Lean functions, and that each call does just that; no condition. Written by a program (px.py) out of the translation. -/
import Derived.Test.YtljchkghnmnpgaaX0
import Derived.Test.YtljchkghnmnpgaaXE23
import Derived.Test.YtljchkghnmnpgaaX26
import Derived.Test.YtljchkghnmnpgaaX22
import Derived.Test.YtljchkghnmnpgaaX27
import Derived.Test.YtljchkghnmnpgaaX21
import Derived.Test.YtljchkghnmnpgaaX28
import Derived.Test.YtljchkghnmnpgaaX29
import Derived.Test.YtljchkghnmnpgaaX9
import Derived.Test.YtljchkghnmnpgaaX10
import Derived.Test.YtljchkghnmnpgaaX11
import Derived.Test.YtljchkghnmnpgaaX17
import Derived.Test.YtljchkghnmnpgaaX24
import Derived.Test.YtljchkghnmnpgaaX25
import Derived.Test.YtljchkghnmnpgaaX30
import Derived.Test.YtljchkghnmnpgaaX31
import Derived.Test.YtljchkghnmnpgaaShort2
namespace Go.Proofs.Ytljchkghnmnpgaa.X
open Go.RowKit Go.Proofs.YtljchkghnmnpgaaW.PrintWords Go.Proofs.YtljchkghnmnpgaaW.PrintLast Go.Proofs.YtljchkghnmnpgaaW.PrintMore
attribute [local go_sem] max2_int min2_int max_two min_two max_three min_three max_four min_four   -- for this text's walks alone
set_option linter.unusedVariables false
set_option linter.unusedSimpArgs false

attribute [local go_sem high] eqA23
/-! ### caulkerlaw10_KindTells: function 8 -/
mutual
def caulkerlaw10_KindTells.j0 : Nat → List Int → Int → Int → ByteArray → Int → ByteArray → Option (Bool)
 | 0, _, _, _, _, _, _ => none
 | k + 1, x3, x4, x360000, x360001, x360002, x360003 => if (x3.length : Int) = (wrap64 ((wrap64 (x360002 + 1)) - x4)) then (caulkerlaw10_KindTells.l0 k x4 x3 (x3.length : Int) 0 x360000 x360001 x360002 x360003) else (none)
def caulkerlaw10_KindTells.l0 : Nat → Int → List Int → Int → Int → Int → ByteArray → Int → ByteArray → Option (Bool)
 | 0, _, _, _, _, _, _, _, _ => none
 | k + 1, x4, x106, x107, x108, x360000, x360001, x360002, x360003 => if x108 < x107 then (if 0 ≤ x108 then (if x108 < (x106.length : Int) then (if (rd x106 x108) = (wrap64 (x4 + x108)) then (caulkerlaw10_KindTells.l0 k x4 x106 x107 (wrap64 (x108 + 1)) x360000 x360001 x360002 x360003) else (none)) else (none)) else (none)) else ((kind_Ref.f k x360000 x360001 x360002 x360003).bind fun t399 => (if x360002 > 0 then (if (t399 == true) = true then ((kind_Outer.f k x360000 x360001 x360002 x360003).bind fun t400 => (if 0 ≤ x360002 then (if x360002 < (x360003.size : Int) then (if t400 = (bt x360003 x360002) then ((kind_Show.f k x360000 x360001 x360002 x360003).bind fun t401 => ((caulkerref07_Type.f k x360000 x360001 x360002 x360003).bind fun t402 => (if t401.toList = t402.toList then ((kind_Bare.f k x360000 x360001 x360002 x360003).bind fun bt403 => ((caulkerref07_Bare.f x360000 x360001 x360002 x360003).bind fun bt407 => (some (bt403.1 == bt407.1 && (bt403.2.1.toList == bt407.2.1.toList && (bt403.2.2.1 == bt407.2.2.1 && (bt403.2.2.2.toList == bt407.2.2.2.toList))))))) else (none)))) else (none)) else (none)) else (none))) else (none)) else (if (t399 == (x360000 == 5)) = true then ((kind_Outer.f k x360000 x360001 x360002 x360003).bind fun t411 => (if 0 ≤ x360002 then (if x360002 < (x360003.size : Int) then (if t411 = (bt x360003 x360002) then ((kind_Show.f k x360000 x360001 x360002 x360003).bind fun t412 => ((caulkerref07_Type.f k x360000 x360001 x360002 x360003).bind fun t413 => (if t412.toList = t413.toList then ((kind_Bare.f k x360000 x360001 x360002 x360003).bind fun bt414 => ((caulkerref07_Bare.f x360000 x360001 x360002 x360003).bind fun bt418 => (some (bt414.1 == bt418.1 && (bt414.2.1.toList == bt418.2.1.toList && (bt414.2.2.1 == bt418.2.2.1 && (bt414.2.2.2.toList == bt418.2.2.2.toList))))))) else (none)))) else (none)) else (none)) else (none))) else (none))))
end
def caulkerlaw10_KindTells.f (k : Nat) (a0_0 : Int) (a0_1 : ByteArray) (a0_2 : Int) (a0_3 : ByteArray) : Option (Bool) := (caulkerlaw10_sorts.f k).bind fun t360 => (if t360 = true then ((caulkerlaw10_small.f k (([(⟨a0_0, a0_1, a0_2, a0_3⟩ : S23)] : List (S23)))).bind fun t364 => (if t364 = true then ((kind_Right.f k a0_0 a0_1 a0_2 a0_3).bind fun t365 => ((caulkerlaw10_right.f k a0_0 a0_1 a0_2 a0_3).bind fun t366 => (if (t365 != t366) = true then (none) else ((caulkerlaw10_right.f k a0_0 a0_1 a0_2 a0_3).bind fun t367 => (if t367 = true then ((caulkerlaw10_plain.f k a0_0 a0_1 a0_2 a0_3).bind fun t380 => (if t380 = true then ((kind_Layers.f k a0_0 a0_1 a0_2 a0_3).bind fun t395 => (if a0_0 = 5 then (caulkerlaw10_KindTells.j0 k t395 0 a0_0 a0_1 a0_2 a0_3) else (caulkerlaw10_KindTells.j0 k t395 1 a0_0 a0_1 a0_2 a0_3))) else ((kind_Ref.f k a0_0 a0_1 a0_2 a0_3).bind fun t381 => (if t381 = true then ((kind_Outer.f k a0_0 a0_1 a0_2 a0_3).bind fun t382 => (if 0 < (a0_3.size : Int) then (if t382 = (bt a0_3 0) then ((kind_Layers.f k a0_0 a0_1 a0_2 a0_3).bind fun t383 => (if (t383.length : Int) = 0 then ((kind_Show.f k a0_0 a0_1 a0_2 a0_3).bind fun t386 => (if (wrap64 (a0_0 - 7)) = 0 then (if t386.toList = ([110, 117, 108, 108] : List UInt8) then ((kind_Bare.f k a0_0 a0_1 a0_2 a0_3).bind fun bt387 => (some (bt387.1 == a0_0 && (bt387.2.1.toList == a0_1.toList && (bt387.2.2.1 == a0_2 && (bt387.2.2.2.toList == a0_3.toList)))))) else (none)) else (if (wrap64 (a0_0 - 7)) = 1 then (if t386.toList = ([110, 111, 110, 101] : List UInt8) then ((kind_Bare.f k a0_0 a0_1 a0_2 a0_3).bind fun bt391 => (some (bt391.1 == a0_0 && (bt391.2.1.toList == a0_1.toList && (bt391.2.2.1 == a0_2 && (bt391.2.2.2.toList == a0_3.toList)))))) else (none)) else (none)))) else (none))) else (none)) else (none))) else (none))))) else ((kind_Ref.f k a0_0 a0_1 a0_2 a0_3).bind fun t368 => (if t368 = true then (none) else ((kind_Outer.f k a0_0 a0_1 a0_2 a0_3).bind fun t369 => (if t369 = 32 then ((kind_Layers.f k a0_0 a0_1 a0_2 a0_3).bind fun t370 => (if (t370.length : Int) = 0 then ((kind_Show.f k a0_0 a0_1 a0_2 a0_3).bind fun t373 => (if t373.toList = ([] : List UInt8) then ((kind_Bare.f k a0_0 a0_1 a0_2 a0_3).bind fun bt374 => (if (bt374.1 == a0_0 && (bt374.2.1.toList == a0_1.toList && (bt374.2.2.1 == a0_2 && (bt374.2.2.2.toList == a0_3.toList)))) = true then ((kind_Number.f k a0_0 a0_1 a0_2 a0_3).bind fun t378 => (if t378 = true then (none) else ((kind_Is.f k a0_0 a0_1 a0_2 a0_3 a0_0).bind fun t379 => (some (!t379))))) else (none))) else (none))) else (none))) else (none)))))))))) else (some true))) else (none))
theorem caulkerlaw10_KindTells.mono_l : ∀ k, (∀ y0 y1 y2 y3 y4 y5, LeO (caulkerlaw10_KindTells.j0 k y0 y1 y2 y3 y4 y5) (caulkerlaw10_KindTells.j0 (k + 1) y0 y1 y2 y3 y4 y5)) ∧ (∀ y0 y1 y2 y3 y4 y5 y6 y7, LeO (caulkerlaw10_KindTells.l0 k y0 y1 y2 y3 y4 y5 y6 y7) (caulkerlaw10_KindTells.l0 (k + 1) y0 y1 y2 y3 y4 y5 y6 y7))
 | 0 => ⟨fun _ _ _ _ _ _ r h => by simp [caulkerlaw10_KindTells.j0] at h, fun _ _ _ _ _ _ _ _ r h => by simp [caulkerlaw10_KindTells.l0] at h⟩
 | k + 1 => by
  obtain ⟨ih0, ih1⟩ := caulkerlaw10_KindTells.mono_l k
  refine ⟨?_, ?_⟩
  ·intro y0 y1 y2 y3 y4 y5
   unfold caulkerlaw10_KindTells.j0
   repeat' first
   | (with_reducible exact ih0 _ _ _ _ _ _)
   | (with_reducible exact ih1 _ _ _ _ _ _ _ _)
   | (with_reducible exact caulkerlaw10_plain.mono _ _ _ _ _)
   | (with_reducible exact caulkerlaw10_right.mono _ _ _ _ _)
   | (with_reducible exact caulkerlaw10_small.mono _ _)
   | (with_reducible exact caulkerlaw10_sorts.mono _)
   | (with_reducible exact caulkerref07_Type.mono _ _ _ _ _)
   | (with_reducible exact kind_Bare.mono _ _ _ _ _)
   | (with_reducible exact kind_Is.mono _ _ _ _ _ _)
   | (with_reducible exact kind_Layers.mono _ _ _ _ _)
   | (with_reducible exact kind_Number.mono _ _ _ _ _)
   | (with_reducible exact kind_Outer.mono _ _ _ _ _)
   | (with_reducible exact kind_Ref.mono _ _ _ _ _)
   | (with_reducible exact kind_Right.mono _ _ _ _ _)
   | (with_reducible exact kind_Show.mono _ _ _ _ _)
   | (with_reducible exact LeO.refl _)
   | (with_reducible exact LeO.none _)
   | (with_reducible refine LeO.ite ?_ ?_)
   | (with_reducible refine LeO.bind ?_ (fun _ => ?_))
   | exact ih0 _ _ _ _ _ _
   | exact ih1 _ _ _ _ _ _ _ _
   | exact caulkerlaw10_plain.mono _ _ _ _ _
   | exact caulkerlaw10_right.mono _ _ _ _ _
   | exact caulkerlaw10_small.mono _ _
   | exact caulkerlaw10_sorts.mono _
   | exact caulkerref07_Type.mono _ _ _ _ _
   | exact kind_Bare.mono _ _ _ _ _
   | exact kind_Is.mono _ _ _ _ _ _
   | exact kind_Layers.mono _ _ _ _ _
   | exact kind_Number.mono _ _ _ _ _
   | exact kind_Outer.mono _ _ _ _ _
   | exact kind_Ref.mono _ _ _ _ _
   | exact kind_Right.mono _ _ _ _ _
   | exact kind_Show.mono _ _ _ _ _
   | exact LeO.none _
   | refine LeO.ite ?_ ?_
   | refine LeO.bind ?_ (fun _ => ?_)
  ·intro y0 y1 y2 y3 y4 y5 y6 y7
   unfold caulkerlaw10_KindTells.l0
   repeat' first
   | (with_reducible exact ih0 _ _ _ _ _ _)
   | (with_reducible exact ih1 _ _ _ _ _ _ _ _)
   | (with_reducible exact caulkerlaw10_plain.mono _ _ _ _ _)
   | (with_reducible exact caulkerlaw10_right.mono _ _ _ _ _)
   | (with_reducible exact caulkerlaw10_small.mono _ _)
   | (with_reducible exact caulkerlaw10_sorts.mono _)
   | (with_reducible exact caulkerref07_Type.mono _ _ _ _ _)
   | (with_reducible exact kind_Bare.mono _ _ _ _ _)
   | (with_reducible exact kind_Is.mono _ _ _ _ _ _)
   | (with_reducible exact kind_Layers.mono _ _ _ _ _)
   | (with_reducible exact kind_Number.mono _ _ _ _ _)
   | (with_reducible exact kind_Outer.mono _ _ _ _ _)
   | (with_reducible exact kind_Ref.mono _ _ _ _ _)
   | (with_reducible exact kind_Right.mono _ _ _ _ _)
   | (with_reducible exact kind_Show.mono _ _ _ _ _)
   | (with_reducible exact LeO.refl _)
   | (with_reducible exact LeO.none _)
   | (with_reducible refine LeO.ite ?_ ?_)
   | (with_reducible refine LeO.bind ?_ (fun _ => ?_))
   | exact ih0 _ _ _ _ _ _
   | exact ih1 _ _ _ _ _ _ _ _
   | exact caulkerlaw10_plain.mono _ _ _ _ _
   | exact caulkerlaw10_right.mono _ _ _ _ _
   | exact caulkerlaw10_small.mono _ _
   | exact caulkerlaw10_sorts.mono _
   | exact caulkerref07_Type.mono _ _ _ _ _
   | exact kind_Bare.mono _ _ _ _ _
   | exact kind_Is.mono _ _ _ _ _ _
   | exact kind_Layers.mono _ _ _ _ _
   | exact kind_Number.mono _ _ _ _ _
   | exact kind_Outer.mono _ _ _ _ _
   | exact kind_Ref.mono _ _ _ _ _
   | exact kind_Right.mono _ _ _ _ _
   | exact kind_Show.mono _ _ _ _ _
   | exact LeO.none _
   | refine LeO.ite ?_ ?_
   | refine LeO.bind ?_ (fun _ => ?_)
theorem caulkerlaw10_KindTells.mono : ∀ a0 a1 a2 a3 k, LeO (caulkerlaw10_KindTells.f k a0 a1 a2 a3) (caulkerlaw10_KindTells.f (k + 1) a0 a1 a2 a3) := by
 intro a0 a1 a2 a3 k
 obtain ⟨ih0, ih1⟩ := caulkerlaw10_KindTells.mono_l k
 unfold caulkerlaw10_KindTells.f
 repeat' first
   | (with_reducible exact ih0 _ _ _ _ _ _)
   | (with_reducible exact ih1 _ _ _ _ _ _ _ _)
   | (with_reducible exact caulkerlaw10_plain.mono _ _ _ _ _)
   | (with_reducible exact caulkerlaw10_right.mono _ _ _ _ _)
   | (with_reducible exact caulkerlaw10_small.mono _ _)
   | (with_reducible exact caulkerlaw10_sorts.mono _)
   | (with_reducible exact caulkerref07_Type.mono _ _ _ _ _)
   | (with_reducible exact kind_Bare.mono _ _ _ _ _)
   | (with_reducible exact kind_Is.mono _ _ _ _ _ _)
   | (with_reducible exact kind_Layers.mono _ _ _ _ _)
   | (with_reducible exact kind_Number.mono _ _ _ _ _)
   | (with_reducible exact kind_Outer.mono _ _ _ _ _)
   | (with_reducible exact kind_Ref.mono _ _ _ _ _)
   | (with_reducible exact kind_Right.mono _ _ _ _ _)
   | (with_reducible exact kind_Show.mono _ _ _ _ _)
   | (with_reducible exact LeO.refl _)
   | (with_reducible exact LeO.none _)
   | (with_reducible refine LeO.ite ?_ ?_)
   | (with_reducible refine LeO.bind ?_ (fun _ => ?_))
   | exact ih0 _ _ _ _ _ _
   | exact ih1 _ _ _ _ _ _ _ _
   | exact caulkerlaw10_plain.mono _ _ _ _ _
   | exact caulkerlaw10_right.mono _ _ _ _ _
   | exact caulkerlaw10_small.mono _ _
   | exact caulkerlaw10_sorts.mono _
   | exact caulkerref07_Type.mono _ _ _ _ _
   | exact kind_Bare.mono _ _ _ _ _
   | exact kind_Is.mono _ _ _ _ _ _
   | exact kind_Layers.mono _ _ _ _ _
   | exact kind_Number.mono _ _ _ _ _
   | exact kind_Outer.mono _ _ _ _ _
   | exact kind_Ref.mono _ _ _ _ _
   | exact kind_Right.mono _ _ _ _ _
   | exact kind_Show.mono _ _ _ _ _
   | exact LeO.none _
   | refine LeO.ite ?_ ?_
   | refine LeO.bind ?_ (fun _ => ?_)
def caulkerlaw10_KindTells.T8 : Bool × List (List Nat × List Nat) := (true, [([], []), ([0], [0]), ([1], [1]), ([2, 1], [2]), ([3], [3]), ([4, 3, 3], [3, 4]), ([5, 3], [3, 5]), ([3, 6], [3, 6]), ([7, 5], [7]), ([8], [8]), ([9, 8, 8], [8, 9]), ([10, 8], [8, 10]), ([11, 8], [8, 11]), ([8, 12], [8, 12]), ([13, 10], [13]), ([14], [14]), ([15, 14, 14], [14, 15]), ([16, 14], [14, 16]), ([14, 17], [14, 17]), ([18, 16], [18]), ([19], [19]), ([20, 19, 19], [19, 20]), ([19], [19]), ([21, 22, 19], [19, 21, 22]), ([19, 23], [19, 23]), ([24, 21], [24]), ([25], [25]), ([26, 25, 25], [25, 26]), ([27, 25], [25, 27]), ([25, 28], [25, 28]), ([29, 27], [29]), ([30], [30]), ([30], [30]), ([32, 30], [30, 32]), ([31, 33, 30, 30], [30, 31, 33]), ([34, 30], [30, 34]), ([30, 35], [30, 35]), ([36, 34, 0, 1, 2, 3, 4, 5, 6, 7, 8, 9, 10, 11, 12, 13, 14, 15, 16, 17, 18, 19, 20, 21, 22, 23, 24, 25, 26, 27, 28, 29, 30, 31, 32, 33, 34, 35, 36], [36])])
def caulkerlaw10_KindTells.B8 : List Nat := [0, 1, 3, 7, 15, 31, 63, 127, 255, 511, 1023, 2047, 4095, 8191, 16383, 32767, 65535, 131071, 262143, 524287, 1048575, 2097151, 1048575, 8388607, 16777215, 33554431, 67108863, 134217727, 268435455, 536870911, 1073741823, 2147483647, 2147483647, 6442450943, 17179869183, 34359738367, 68719476735, 137438953471]
theorem caulkerlaw10_KindTells.tab8 : rtab .any (opsOf Try.f8 8) = caulkerlaw10_KindTells.T8 := by kernel_rfl
theorem caulkerlaw10_KindTells.bits8 : waitsOk caulkerlaw10_KindTells.T8.2 caulkerlaw10_KindTells.B8 = true := by kernel_rfl
def caulkerlaw10_KindTells.T10 : Bool × List (List Nat × List Nat) := (true, [([], []), ([0], [0]), ([1, 1], [1]), ([2], [2]), ([3, 2, 2], [2, 3]), ([2], [2]), ([5, 2], [2, 5]), ([6, 2], [2, 6]), ([4, 7, 2], [2, 4, 7]), ([2, 8], [2, 8]), ([9, 4], [9]), ([10], [10]), ([11, 10, 10], [10, 11]), ([12, 10], [10, 12]), ([13, 10], [10, 13]), ([10, 14], [10, 14]), ([15, 12], [15]), ([16], [16]), ([17, 16, 16], [16, 17]), ([16], [16]), ([16], [16]), ([20, 16], [16, 20]), ([21, 16], [16, 21]), ([19, 22, 16], [16, 19, 22]), ([18, 23, 16], [16, 18, 23]), ([16, 24], [16, 24]), ([25, 18], [25]), ([26], [26]), ([27, 26, 26], [26, 27]), ([26], [26]), ([28, 29, 26], [26, 28, 29]), ([26, 30], [26, 30]), ([31, 28, 0, 1, 2, 3, 4, 5, 6, 7, 8, 9, 10, 11, 12, 13, 14, 15, 16, 17, 18, 19, 20, 21, 22, 23, 24, 25, 26, 27, 28, 29, 30, 31], [31])])
def caulkerlaw10_KindTells.B10 : List Nat := [0, 1, 3, 7, 15, 7, 39, 103, 255, 511, 1023, 2047, 4095, 8191, 16383, 32767, 65535, 131071, 262143, 131071, 131071, 1179647, 3276799, 7995391, 16777215, 33554431, 67108863, 134217727, 268435455, 134217727, 1073741823, 2147483647, 4294967295]
theorem caulkerlaw10_KindTells.tab10 : rtab .any (opsOf Try.f8 10) = caulkerlaw10_KindTells.T10 := by kernel_rfl
theorem caulkerlaw10_KindTells.bits10 : waitsOk caulkerlaw10_KindTells.T10.2 caulkerlaw10_KindTells.B10 = true := by kernel_rfl
def caulkerlaw10_KindTells.T23 : Bool × List (List Nat × List Nat) := (true, [([], []), ([0], [0]), ([], []), ([2], [2]), ([3], [3]), ([4, 1], [4]), ([5], [5]), ([6, 5], [5, 6]), ([7, 5], [5, 7]), ([5, 8], [5, 8]), ([1, 9], [1, 9]), ([10, 5], [10]), ([11], [11]), ([12, 11, 11], [11, 12]), ([11], [11]), ([14, 11], [11, 14]), ([11], [11]), ([16, 11], [11, 16]), ([15, 17, 11], [11, 15, 17]), ([13, 18, 11], [11, 13, 18]), ([11, 19], [11, 19]), ([20, 13], [20]), ([21], [21]), ([22, 21, 21], [21, 22]), ([21], [21]), ([24, 23, 21], [21, 24]), ([23, 25, 21], [21, 23, 25]), ([21, 26], [21, 26]), ([27, 25], [27]), ([28], [28]), ([29, 28, 28], [28, 29]), ([28], [28]), ([31, 30, 28], [28, 31]), ([30, 32, 28], [28, 30, 32]), ([28, 33], [28, 33]), ([34, 32, 0, 1, 2, 3, 4, 5, 6, 7, 8, 9, 10, 11, 12, 13, 14, 15, 16, 17, 18, 19, 20, 21, 22, 23, 24, 25, 26, 27, 28, 29, 30, 31, 32, 33, 34], [34])])
def caulkerlaw10_KindTells.B23 : List Nat := [0, 1, 0, 4, 12, 31, 63, 127, 255, 511, 1023, 2047, 4095, 8191, 4095, 20479, 4095, 69631, 249855, 524287, 1048575, 2097151, 4194303, 8388607, 4194303, 33554431, 67108863, 134217727, 268435455, 536870911, 1073741823, 536870911, 4294967295, 8589934591, 17179869183, 34359738367]
theorem caulkerlaw10_KindTells.tab23 : rtab .any (opsOf Try.f8 23) = caulkerlaw10_KindTells.T23 := by kernel_rfl
theorem caulkerlaw10_KindTells.bits23 : waitsOk caulkerlaw10_KindTells.T23.2 caulkerlaw10_KindTells.B23 = true := by kernel_rfl
set_option maxHeartbeats 8000000 in
set_option maxRecDepth 100000 in
theorem caulkerlaw10_KindTells.calls (k : Nat) (a0_0 : Int) (a0_1 : ByteArray) (a0_2 : Int) (a0_3 : ByteArray) (r : Bool) (w : World) (h : caulkerlaw10_KindTells.f k a0_0 a0_1 a0_2 a0_3 = some r) :
  Calls Try.prog 8 #[.agg #[.int .i64 a0_0, .string a0_1, .int .i64 a0_2, .string a0_3]] w fun e w' => e = .returned (.bool r) ∧ Below w.heap.size w w' := by
 have hu23 := Try.underlying23
 have HB := Aside0.mk (Below.refl w.heap.size w)
 have H : ((caulkerlaw10_sorts.f k).bind fun t360 => (if t360 = true then ((caulkerlaw10_small.f k (([(⟨a0_0, a0_1, a0_2, a0_3⟩ : S23)] : List (S23)))).bind fun t364 => (if t364 = true then ((kind_Right.f k a0_0 a0_1 a0_2 a0_3).bind fun t365 => ((caulkerlaw10_right.f k a0_0 a0_1 a0_2 a0_3).bind fun t366 => (if (t365 != t366) = true then (none) else ((caulkerlaw10_right.f k a0_0 a0_1 a0_2 a0_3).bind fun t367 => (if t367 = true then ((caulkerlaw10_plain.f k a0_0 a0_1 a0_2 a0_3).bind fun t380 => (if t380 = true then ((kind_Layers.f k a0_0 a0_1 a0_2 a0_3).bind fun t395 => (if a0_0 = 5 then (caulkerlaw10_KindTells.j0 k t395 0 a0_0 a0_1 a0_2 a0_3) else (caulkerlaw10_KindTells.j0 k t395 1 a0_0 a0_1 a0_2 a0_3))) else ((kind_Ref.f k a0_0 a0_1 a0_2 a0_3).bind fun t381 => (if t381 = true then ((kind_Outer.f k a0_0 a0_1 a0_2 a0_3).bind fun t382 => (if 0 < (a0_3.size : Int) then (if t382 = (bt a0_3 0) then ((kind_Layers.f k a0_0 a0_1 a0_2 a0_3).bind fun t383 => (if (t383.length : Int) = 0 then ((kind_Show.f k a0_0 a0_1 a0_2 a0_3).bind fun t386 => (if (wrap64 (a0_0 - 7)) = 0 then (if t386.toList = ([110, 117, 108, 108] : List UInt8) then ((kind_Bare.f k a0_0 a0_1 a0_2 a0_3).bind fun bt387 => (some (bt387.1 == a0_0 && (bt387.2.1.toList == a0_1.toList && (bt387.2.2.1 == a0_2 && (bt387.2.2.2.toList == a0_3.toList)))))) else (none)) else (if (wrap64 (a0_0 - 7)) = 1 then (if t386.toList = ([110, 111, 110, 101] : List UInt8) then ((kind_Bare.f k a0_0 a0_1 a0_2 a0_3).bind fun bt391 => (some (bt391.1 == a0_0 && (bt391.2.1.toList == a0_1.toList && (bt391.2.2.1 == a0_2 && (bt391.2.2.2.toList == a0_3.toList)))))) else (none)) else (none)))) else (none))) else (none)) else (none))) else (none))))) else ((kind_Ref.f k a0_0 a0_1 a0_2 a0_3).bind fun t368 => (if t368 = true then (none) else ((kind_Outer.f k a0_0 a0_1 a0_2 a0_3).bind fun t369 => (if t369 = 32 then ((kind_Layers.f k a0_0 a0_1 a0_2 a0_3).bind fun t370 => (if (t370.length : Int) = 0 then ((kind_Show.f k a0_0 a0_1 a0_2 a0_3).bind fun t373 => (if t373.toList = ([] : List UInt8) then ((kind_Bare.f k a0_0 a0_1 a0_2 a0_3).bind fun bt374 => (if (bt374.1 == a0_0 && (bt374.2.1.toList == a0_1.toList && (bt374.2.2.1 == a0_2 && (bt374.2.2.2.toList == a0_3.toList)))) = true then ((kind_Number.f k a0_0 a0_1 a0_2 a0_3).bind fun t378 => (if t378 = true then (none) else ((kind_Is.f k a0_0 a0_1 a0_2 a0_3 a0_0).bind fun t379 => (some (!t379))))) else (none))) else (none))) else (none))) else (none)))))))))) else (some true))) else (none))) = some r := h
 clear h
 replace H := Option.bind_eq_some_iff.mp H
 obtain ⟨t360, A20, H⟩ := H
 replace H : (if t360 = true then ((caulkerlaw10_small.f k (([(⟨a0_0, a0_1, a0_2, a0_3⟩ : S23)] : List (S23)))).bind fun t364 => (if t364 = true then ((kind_Right.f k a0_0 a0_1 a0_2 a0_3).bind fun t365 => ((caulkerlaw10_right.f k a0_0 a0_1 a0_2 a0_3).bind fun t366 => (if (t365 != t366) = true then (none) else ((caulkerlaw10_right.f k a0_0 a0_1 a0_2 a0_3).bind fun t367 => (if t367 = true then ((caulkerlaw10_plain.f k a0_0 a0_1 a0_2 a0_3).bind fun t380 => (if t380 = true then ((kind_Layers.f k a0_0 a0_1 a0_2 a0_3).bind fun t395 => (if a0_0 = 5 then (caulkerlaw10_KindTells.j0 k t395 0 a0_0 a0_1 a0_2 a0_3) else (caulkerlaw10_KindTells.j0 k t395 1 a0_0 a0_1 a0_2 a0_3))) else ((kind_Ref.f k a0_0 a0_1 a0_2 a0_3).bind fun t381 => (if t381 = true then ((kind_Outer.f k a0_0 a0_1 a0_2 a0_3).bind fun t382 => (if 0 < (a0_3.size : Int) then (if t382 = (bt a0_3 0) then ((kind_Layers.f k a0_0 a0_1 a0_2 a0_3).bind fun t383 => (if (t383.length : Int) = 0 then ((kind_Show.f k a0_0 a0_1 a0_2 a0_3).bind fun t386 => (if (wrap64 (a0_0 - 7)) = 0 then (if t386.toList = ([110, 117, 108, 108] : List UInt8) then ((kind_Bare.f k a0_0 a0_1 a0_2 a0_3).bind fun bt387 => (some (bt387.1 == a0_0 && (bt387.2.1.toList == a0_1.toList && (bt387.2.2.1 == a0_2 && (bt387.2.2.2.toList == a0_3.toList)))))) else (none)) else (if (wrap64 (a0_0 - 7)) = 1 then (if t386.toList = ([110, 111, 110, 101] : List UInt8) then ((kind_Bare.f k a0_0 a0_1 a0_2 a0_3).bind fun bt391 => (some (bt391.1 == a0_0 && (bt391.2.1.toList == a0_1.toList && (bt391.2.2.1 == a0_2 && (bt391.2.2.2.toList == a0_3.toList)))))) else (none)) else (none)))) else (none))) else (none)) else (none))) else (none))))) else ((kind_Ref.f k a0_0 a0_1 a0_2 a0_3).bind fun t368 => (if t368 = true then (none) else ((kind_Outer.f k a0_0 a0_1 a0_2 a0_3).bind fun t369 => (if t369 = 32 then ((kind_Layers.f k a0_0 a0_1 a0_2 a0_3).bind fun t370 => (if (t370.length : Int) = 0 then ((kind_Show.f k a0_0 a0_1 a0_2 a0_3).bind fun t373 => (if t373.toList = ([] : List UInt8) then ((kind_Bare.f k a0_0 a0_1 a0_2 a0_3).bind fun bt374 => (if (bt374.1 == a0_0 && (bt374.2.1.toList == a0_1.toList && (bt374.2.2.1 == a0_2 && (bt374.2.2.2.toList == a0_3.toList)))) = true then ((kind_Number.f k a0_0 a0_1 a0_2 a0_3).bind fun t378 => (if t378 = true then (none) else ((kind_Is.f k a0_0 a0_1 a0_2 a0_3 a0_0).bind fun t379 => (some (!t379))))) else (none))) else (none))) else (none))) else (none)))))))))) else (some true))) else (none)) = some r := H
 have A2 := Aside0.mk A20
 clear A20
 by_cases c3 : t360 = true
 ·subst c3
  have H1 : ((caulkerlaw10_small.f k (([(⟨a0_0, a0_1, a0_2, a0_3⟩ : S23)] : List (S23)))).bind fun t364 => (if t364 = true then ((kind_Right.f k a0_0 a0_1 a0_2 a0_3).bind fun t365 => ((caulkerlaw10_right.f k a0_0 a0_1 a0_2 a0_3).bind fun t366 => (if (t365 != t366) = true then (none) else ((caulkerlaw10_right.f k a0_0 a0_1 a0_2 a0_3).bind fun t367 => (if t367 = true then ((caulkerlaw10_plain.f k a0_0 a0_1 a0_2 a0_3).bind fun t380 => (if t380 = true then ((kind_Layers.f k a0_0 a0_1 a0_2 a0_3).bind fun t395 => (if a0_0 = 5 then (caulkerlaw10_KindTells.j0 k t395 0 a0_0 a0_1 a0_2 a0_3) else (caulkerlaw10_KindTells.j0 k t395 1 a0_0 a0_1 a0_2 a0_3))) else ((kind_Ref.f k a0_0 a0_1 a0_2 a0_3).bind fun t381 => (if t381 = true then ((kind_Outer.f k a0_0 a0_1 a0_2 a0_3).bind fun t382 => (if 0 < (a0_3.size : Int) then (if t382 = (bt a0_3 0) then ((kind_Layers.f k a0_0 a0_1 a0_2 a0_3).bind fun t383 => (if (t383.length : Int) = 0 then ((kind_Show.f k a0_0 a0_1 a0_2 a0_3).bind fun t386 => (if (wrap64 (a0_0 - 7)) = 0 then (if t386.toList = ([110, 117, 108, 108] : List UInt8) then ((kind_Bare.f k a0_0 a0_1 a0_2 a0_3).bind fun bt387 => (some (bt387.1 == a0_0 && (bt387.2.1.toList == a0_1.toList && (bt387.2.2.1 == a0_2 && (bt387.2.2.2.toList == a0_3.toList)))))) else (none)) else (if (wrap64 (a0_0 - 7)) = 1 then (if t386.toList = ([110, 111, 110, 101] : List UInt8) then ((kind_Bare.f k a0_0 a0_1 a0_2 a0_3).bind fun bt391 => (some (bt391.1 == a0_0 && (bt391.2.1.toList == a0_1.toList && (bt391.2.2.1 == a0_2 && (bt391.2.2.2.toList == a0_3.toList)))))) else (none)) else (none)))) else (none))) else (none)) else (none))) else (none))))) else ((kind_Ref.f k a0_0 a0_1 a0_2 a0_3).bind fun t368 => (if t368 = true then (none) else ((kind_Outer.f k a0_0 a0_1 a0_2 a0_3).bind fun t369 => (if t369 = 32 then ((kind_Layers.f k a0_0 a0_1 a0_2 a0_3).bind fun t370 => (if (t370.length : Int) = 0 then ((kind_Show.f k a0_0 a0_1 a0_2 a0_3).bind fun t373 => (if t373.toList = ([] : List UInt8) then ((kind_Bare.f k a0_0 a0_1 a0_2 a0_3).bind fun bt374 => (if (bt374.1 == a0_0 && (bt374.2.1.toList == a0_1.toList && (bt374.2.2.1 == a0_2 && (bt374.2.2.2.toList == a0_3.toList)))) = true then ((kind_Number.f k a0_0 a0_1 a0_2 a0_3).bind fun t378 => (if t378 = true then (none) else ((kind_Is.f k a0_0 a0_1 a0_2 a0_3 a0_0).bind fun t379 => (some (!t379))))) else (none))) else (none))) else (none))) else (none)))))))))) else (some true))) = some r := by rw [if_pos rfl] at H; exact H
  clear H
  have H := H1
  clear H1
  obtain ⟨y361, hy361⟩ : ∃ y_ : List (S23), y_ = (([(⟨a0_0, a0_1, a0_2, a0_3⟩ : S23)] : List (S23))) := ⟨_, rfl⟩
  replace H : ((caulkerlaw10_small.f k y361).bind fun t364 => (if t364 = true then ((kind_Right.f k a0_0 a0_1 a0_2 a0_3).bind fun t365 => ((caulkerlaw10_right.f k a0_0 a0_1 a0_2 a0_3).bind fun t366 => (if (t365 != t366) = true then (none) else ((caulkerlaw10_right.f k a0_0 a0_1 a0_2 a0_3).bind fun t367 => (if t367 = true then ((caulkerlaw10_plain.f k a0_0 a0_1 a0_2 a0_3).bind fun t380 => (if t380 = true then ((kind_Layers.f k a0_0 a0_1 a0_2 a0_3).bind fun t395 => (if a0_0 = 5 then (caulkerlaw10_KindTells.j0 k t395 0 a0_0 a0_1 a0_2 a0_3) else (caulkerlaw10_KindTells.j0 k t395 1 a0_0 a0_1 a0_2 a0_3))) else ((kind_Ref.f k a0_0 a0_1 a0_2 a0_3).bind fun t381 => (if t381 = true then ((kind_Outer.f k a0_0 a0_1 a0_2 a0_3).bind fun t382 => (if 0 < (a0_3.size : Int) then (if t382 = (bt a0_3 0) then ((kind_Layers.f k a0_0 a0_1 a0_2 a0_3).bind fun t383 => (if (t383.length : Int) = 0 then ((kind_Show.f k a0_0 a0_1 a0_2 a0_3).bind fun t386 => (if (wrap64 (a0_0 - 7)) = 0 then (if t386.toList = ([110, 117, 108, 108] : List UInt8) then ((kind_Bare.f k a0_0 a0_1 a0_2 a0_3).bind fun bt387 => (some (bt387.1 == a0_0 && (bt387.2.1.toList == a0_1.toList && (bt387.2.2.1 == a0_2 && (bt387.2.2.2.toList == a0_3.toList)))))) else (none)) else (if (wrap64 (a0_0 - 7)) = 1 then (if t386.toList = ([110, 111, 110, 101] : List UInt8) then ((kind_Bare.f k a0_0 a0_1 a0_2 a0_3).bind fun bt391 => (some (bt391.1 == a0_0 && (bt391.2.1.toList == a0_1.toList && (bt391.2.2.1 == a0_2 && (bt391.2.2.2.toList == a0_3.toList)))))) else (none)) else (none)))) else (none))) else (none)) else (none))) else (none))))) else ((kind_Ref.f k a0_0 a0_1 a0_2 a0_3).bind fun t368 => (if t368 = true then (none) else ((kind_Outer.f k a0_0 a0_1 a0_2 a0_3).bind fun t369 => (if t369 = 32 then ((kind_Layers.f k a0_0 a0_1 a0_2 a0_3).bind fun t370 => (if (t370.length : Int) = 0 then ((kind_Show.f k a0_0 a0_1 a0_2 a0_3).bind fun t373 => (if t373.toList = ([] : List UInt8) then ((kind_Bare.f k a0_0 a0_1 a0_2 a0_3).bind fun bt374 => (if (bt374.1 == a0_0 && (bt374.2.1.toList == a0_1.toList && (bt374.2.2.1 == a0_2 && (bt374.2.2.2.toList == a0_3.toList)))) = true then ((kind_Number.f k a0_0 a0_1 a0_2 a0_3).bind fun t378 => (if t378 = true then (none) else ((kind_Is.f k a0_0 a0_1 a0_2 a0_3 a0_0).bind fun t379 => (some (!t379))))) else (none))) else (none))) else (none))) else (none)))))))))) else (some true))) = some r := by first | (rw [hy361]; with_reducible exact H) | (have H2_ := (Option.bind_some _ _).symm.trans H; rw [hy361]; with_reducible exact H2_) | (have H2_ := (Option.bind_some _ _).symm.trans H; with_reducible exact H2_) | with_reducible exact H | (rw [hy361]; exact H) | exact H
  have Ny361 := Aside0.mk hy361
  clear hy361
  replace H := Option.bind_eq_some_iff.mp H
  obtain ⟨t364, A40, H⟩ := H
  replace H : (if t364 = true then ((kind_Right.f k a0_0 a0_1 a0_2 a0_3).bind fun t365 => ((caulkerlaw10_right.f k a0_0 a0_1 a0_2 a0_3).bind fun t366 => (if (t365 != t366) = true then (none) else ((caulkerlaw10_right.f k a0_0 a0_1 a0_2 a0_3).bind fun t367 => (if t367 = true then ((caulkerlaw10_plain.f k a0_0 a0_1 a0_2 a0_3).bind fun t380 => (if t380 = true then ((kind_Layers.f k a0_0 a0_1 a0_2 a0_3).bind fun t395 => (if a0_0 = 5 then (caulkerlaw10_KindTells.j0 k t395 0 a0_0 a0_1 a0_2 a0_3) else (caulkerlaw10_KindTells.j0 k t395 1 a0_0 a0_1 a0_2 a0_3))) else ((kind_Ref.f k a0_0 a0_1 a0_2 a0_3).bind fun t381 => (if t381 = true then ((kind_Outer.f k a0_0 a0_1 a0_2 a0_3).bind fun t382 => (if 0 < (a0_3.size : Int) then (if t382 = (bt a0_3 0) then ((kind_Layers.f k a0_0 a0_1 a0_2 a0_3).bind fun t383 => (if (t383.length : Int) = 0 then ((kind_Show.f k a0_0 a0_1 a0_2 a0_3).bind fun t386 => (if (wrap64 (a0_0 - 7)) = 0 then (if t386.toList = ([110, 117, 108, 108] : List UInt8) then ((kind_Bare.f k a0_0 a0_1 a0_2 a0_3).bind fun bt387 => (some (bt387.1 == a0_0 && (bt387.2.1.toList == a0_1.toList && (bt387.2.2.1 == a0_2 && (bt387.2.2.2.toList == a0_3.toList)))))) else (none)) else (if (wrap64 (a0_0 - 7)) = 1 then (if t386.toList = ([110, 111, 110, 101] : List UInt8) then ((kind_Bare.f k a0_0 a0_1 a0_2 a0_3).bind fun bt391 => (some (bt391.1 == a0_0 && (bt391.2.1.toList == a0_1.toList && (bt391.2.2.1 == a0_2 && (bt391.2.2.2.toList == a0_3.toList)))))) else (none)) else (none)))) else (none))) else (none)) else (none))) else (none))))) else ((kind_Ref.f k a0_0 a0_1 a0_2 a0_3).bind fun t368 => (if t368 = true then (none) else ((kind_Outer.f k a0_0 a0_1 a0_2 a0_3).bind fun t369 => (if t369 = 32 then ((kind_Layers.f k a0_0 a0_1 a0_2 a0_3).bind fun t370 => (if (t370.length : Int) = 0 then ((kind_Show.f k a0_0 a0_1 a0_2 a0_3).bind fun t373 => (if t373.toList = ([] : List UInt8) then ((kind_Bare.f k a0_0 a0_1 a0_2 a0_3).bind fun bt374 => (if (bt374.1 == a0_0 && (bt374.2.1.toList == a0_1.toList && (bt374.2.2.1 == a0_2 && (bt374.2.2.2.toList == a0_3.toList)))) = true then ((kind_Number.f k a0_0 a0_1 a0_2 a0_3).bind fun t378 => (if t378 = true then (none) else ((kind_Is.f k a0_0 a0_1 a0_2 a0_3 a0_0).bind fun t379 => (some (!t379))))) else (none))) else (none))) else (none))) else (none)))))))))) else (some true)) = some r := H
  have A4 := Aside0.mk A40
  clear A40
  by_cases c5 : t364 = true
  ·subst c5
   have H1 : ((kind_Right.f k a0_0 a0_1 a0_2 a0_3).bind fun t365 => ((caulkerlaw10_right.f k a0_0 a0_1 a0_2 a0_3).bind fun t366 => (if (t365 != t366) = true then (none) else ((caulkerlaw10_right.f k a0_0 a0_1 a0_2 a0_3).bind fun t367 => (if t367 = true then ((caulkerlaw10_plain.f k a0_0 a0_1 a0_2 a0_3).bind fun t380 => (if t380 = true then ((kind_Layers.f k a0_0 a0_1 a0_2 a0_3).bind fun t395 => (if a0_0 = 5 then (caulkerlaw10_KindTells.j0 k t395 0 a0_0 a0_1 a0_2 a0_3) else (caulkerlaw10_KindTells.j0 k t395 1 a0_0 a0_1 a0_2 a0_3))) else ((kind_Ref.f k a0_0 a0_1 a0_2 a0_3).bind fun t381 => (if t381 = true then ((kind_Outer.f k a0_0 a0_1 a0_2 a0_3).bind fun t382 => (if 0 < (a0_3.size : Int) then (if t382 = (bt a0_3 0) then ((kind_Layers.f k a0_0 a0_1 a0_2 a0_3).bind fun t383 => (if (t383.length : Int) = 0 then ((kind_Show.f k a0_0 a0_1 a0_2 a0_3).bind fun t386 => (if (wrap64 (a0_0 - 7)) = 0 then (if t386.toList = ([110, 117, 108, 108] : List UInt8) then ((kind_Bare.f k a0_0 a0_1 a0_2 a0_3).bind fun bt387 => (some (bt387.1 == a0_0 && (bt387.2.1.toList == a0_1.toList && (bt387.2.2.1 == a0_2 && (bt387.2.2.2.toList == a0_3.toList)))))) else (none)) else (if (wrap64 (a0_0 - 7)) = 1 then (if t386.toList = ([110, 111, 110, 101] : List UInt8) then ((kind_Bare.f k a0_0 a0_1 a0_2 a0_3).bind fun bt391 => (some (bt391.1 == a0_0 && (bt391.2.1.toList == a0_1.toList && (bt391.2.2.1 == a0_2 && (bt391.2.2.2.toList == a0_3.toList)))))) else (none)) else (none)))) else (none))) else (none)) else (none))) else (none))))) else ((kind_Ref.f k a0_0 a0_1 a0_2 a0_3).bind fun t368 => (if t368 = true then (none) else ((kind_Outer.f k a0_0 a0_1 a0_2 a0_3).bind fun t369 => (if t369 = 32 then ((kind_Layers.f k a0_0 a0_1 a0_2 a0_3).bind fun t370 => (if (t370.length : Int) = 0 then ((kind_Show.f k a0_0 a0_1 a0_2 a0_3).bind fun t373 => (if t373.toList = ([] : List UInt8) then ((kind_Bare.f k a0_0 a0_1 a0_2 a0_3).bind fun bt374 => (if (bt374.1 == a0_0 && (bt374.2.1.toList == a0_1.toList && (bt374.2.2.1 == a0_2 && (bt374.2.2.2.toList == a0_3.toList)))) = true then ((kind_Number.f k a0_0 a0_1 a0_2 a0_3).bind fun t378 => (if t378 = true then (none) else ((kind_Is.f k a0_0 a0_1 a0_2 a0_3 a0_0).bind fun t379 => (some (!t379))))) else (none))) else (none))) else (none))) else (none)))))))))) = some r := by rw [if_pos rfl] at H; exact H
   clear H
   have H := H1
   clear H1
   replace H := Option.bind_eq_some_iff.mp H
   obtain ⟨t365, A60, H⟩ := H
   replace H : ((caulkerlaw10_right.f k a0_0 a0_1 a0_2 a0_3).bind fun t366 => (if (t365 != t366) = true then (none) else ((caulkerlaw10_right.f k a0_0 a0_1 a0_2 a0_3).bind fun t367 => (if t367 = true then ((caulkerlaw10_plain.f k a0_0 a0_1 a0_2 a0_3).bind fun t380 => (if t380 = true then ((kind_Layers.f k a0_0 a0_1 a0_2 a0_3).bind fun t395 => (if a0_0 = 5 then (caulkerlaw10_KindTells.j0 k t395 0 a0_0 a0_1 a0_2 a0_3) else (caulkerlaw10_KindTells.j0 k t395 1 a0_0 a0_1 a0_2 a0_3))) else ((kind_Ref.f k a0_0 a0_1 a0_2 a0_3).bind fun t381 => (if t381 = true then ((kind_Outer.f k a0_0 a0_1 a0_2 a0_3).bind fun t382 => (if 0 < (a0_3.size : Int) then (if t382 = (bt a0_3 0) then ((kind_Layers.f k a0_0 a0_1 a0_2 a0_3).bind fun t383 => (if (t383.length : Int) = 0 then ((kind_Show.f k a0_0 a0_1 a0_2 a0_3).bind fun t386 => (if (wrap64 (a0_0 - 7)) = 0 then (if t386.toList = ([110, 117, 108, 108] : List UInt8) then ((kind_Bare.f k a0_0 a0_1 a0_2 a0_3).bind fun bt387 => (some (bt387.1 == a0_0 && (bt387.2.1.toList == a0_1.toList && (bt387.2.2.1 == a0_2 && (bt387.2.2.2.toList == a0_3.toList)))))) else (none)) else (if (wrap64 (a0_0 - 7)) = 1 then (if t386.toList = ([110, 111, 110, 101] : List UInt8) then ((kind_Bare.f k a0_0 a0_1 a0_2 a0_3).bind fun bt391 => (some (bt391.1 == a0_0 && (bt391.2.1.toList == a0_1.toList && (bt391.2.2.1 == a0_2 && (bt391.2.2.2.toList == a0_3.toList)))))) else (none)) else (none)))) else (none))) else (none)) else (none))) else (none))))) else ((kind_Ref.f k a0_0 a0_1 a0_2 a0_3).bind fun t368 => (if t368 = true then (none) else ((kind_Outer.f k a0_0 a0_1 a0_2 a0_3).bind fun t369 => (if t369 = 32 then ((kind_Layers.f k a0_0 a0_1 a0_2 a0_3).bind fun t370 => (if (t370.length : Int) = 0 then ((kind_Show.f k a0_0 a0_1 a0_2 a0_3).bind fun t373 => (if t373.toList = ([] : List UInt8) then ((kind_Bare.f k a0_0 a0_1 a0_2 a0_3).bind fun bt374 => (if (bt374.1 == a0_0 && (bt374.2.1.toList == a0_1.toList && (bt374.2.2.1 == a0_2 && (bt374.2.2.2.toList == a0_3.toList)))) = true then ((kind_Number.f k a0_0 a0_1 a0_2 a0_3).bind fun t378 => (if t378 = true then (none) else ((kind_Is.f k a0_0 a0_1 a0_2 a0_3 a0_0).bind fun t379 => (some (!t379))))) else (none))) else (none))) else (none))) else (none))))))))) = some r := H
   have A6 := Aside0.mk A60
   clear A60
   replace H := Option.bind_eq_some_iff.mp H
   obtain ⟨t366, A70, H⟩ := H
   replace H : (if (t365 != t366) = true then (none) else ((caulkerlaw10_right.f k a0_0 a0_1 a0_2 a0_3).bind fun t367 => (if t367 = true then ((caulkerlaw10_plain.f k a0_0 a0_1 a0_2 a0_3).bind fun t380 => (if t380 = true then ((kind_Layers.f k a0_0 a0_1 a0_2 a0_3).bind fun t395 => (if a0_0 = 5 then (caulkerlaw10_KindTells.j0 k t395 0 a0_0 a0_1 a0_2 a0_3) else (caulkerlaw10_KindTells.j0 k t395 1 a0_0 a0_1 a0_2 a0_3))) else ((kind_Ref.f k a0_0 a0_1 a0_2 a0_3).bind fun t381 => (if t381 = true then ((kind_Outer.f k a0_0 a0_1 a0_2 a0_3).bind fun t382 => (if 0 < (a0_3.size : Int) then (if t382 = (bt a0_3 0) then ((kind_Layers.f k a0_0 a0_1 a0_2 a0_3).bind fun t383 => (if (t383.length : Int) = 0 then ((kind_Show.f k a0_0 a0_1 a0_2 a0_3).bind fun t386 => (if (wrap64 (a0_0 - 7)) = 0 then (if t386.toList = ([110, 117, 108, 108] : List UInt8) then ((kind_Bare.f k a0_0 a0_1 a0_2 a0_3).bind fun bt387 => (some (bt387.1 == a0_0 && (bt387.2.1.toList == a0_1.toList && (bt387.2.2.1 == a0_2 && (bt387.2.2.2.toList == a0_3.toList)))))) else (none)) else (if (wrap64 (a0_0 - 7)) = 1 then (if t386.toList = ([110, 111, 110, 101] : List UInt8) then ((kind_Bare.f k a0_0 a0_1 a0_2 a0_3).bind fun bt391 => (some (bt391.1 == a0_0 && (bt391.2.1.toList == a0_1.toList && (bt391.2.2.1 == a0_2 && (bt391.2.2.2.toList == a0_3.toList)))))) else (none)) else (none)))) else (none))) else (none)) else (none))) else (none))))) else ((kind_Ref.f k a0_0 a0_1 a0_2 a0_3).bind fun t368 => (if t368 = true then (none) else ((kind_Outer.f k a0_0 a0_1 a0_2 a0_3).bind fun t369 => (if t369 = 32 then ((kind_Layers.f k a0_0 a0_1 a0_2 a0_3).bind fun t370 => (if (t370.length : Int) = 0 then ((kind_Show.f k a0_0 a0_1 a0_2 a0_3).bind fun t373 => (if t373.toList = ([] : List UInt8) then ((kind_Bare.f k a0_0 a0_1 a0_2 a0_3).bind fun bt374 => (if (bt374.1 == a0_0 && (bt374.2.1.toList == a0_1.toList && (bt374.2.2.1 == a0_2 && (bt374.2.2.2.toList == a0_3.toList)))) = true then ((kind_Number.f k a0_0 a0_1 a0_2 a0_3).bind fun t378 => (if t378 = true then (none) else ((kind_Is.f k a0_0 a0_1 a0_2 a0_3 a0_0).bind fun t379 => (some (!t379))))) else (none))) else (none))) else (none))) else (none)))))))) = some r := H
   have A7 := Aside0.mk A70
   clear A70
   by_cases c8 : (t365 != t366) = true
   ·rw [if_pos c8] at H
    exact absurd H (by simp)
   ·rw [if_neg c8] at H
    have c8b0 : (t365 != t366) = false := by simpa using c8
    (try (have c8b1 : decide (t365 = t366) = true := by simpa using c8))
    (try (have c8b2 : (t365 == t366) = true := by simpa using c8))
    clear c8
    replace H := Option.bind_eq_some_iff.mp H
    obtain ⟨t367, A90, H⟩ := H
    replace H : (if t367 = true then ((caulkerlaw10_plain.f k a0_0 a0_1 a0_2 a0_3).bind fun t380 => (if t380 = true then ((kind_Layers.f k a0_0 a0_1 a0_2 a0_3).bind fun t395 => (if a0_0 = 5 then (caulkerlaw10_KindTells.j0 k t395 0 a0_0 a0_1 a0_2 a0_3) else (caulkerlaw10_KindTells.j0 k t395 1 a0_0 a0_1 a0_2 a0_3))) else ((kind_Ref.f k a0_0 a0_1 a0_2 a0_3).bind fun t381 => (if t381 = true then ((kind_Outer.f k a0_0 a0_1 a0_2 a0_3).bind fun t382 => (if 0 < (a0_3.size : Int) then (if t382 = (bt a0_3 0) then ((kind_Layers.f k a0_0 a0_1 a0_2 a0_3).bind fun t383 => (if (t383.length : Int) = 0 then ((kind_Show.f k a0_0 a0_1 a0_2 a0_3).bind fun t386 => (if (wrap64 (a0_0 - 7)) = 0 then (if t386.toList = ([110, 117, 108, 108] : List UInt8) then ((kind_Bare.f k a0_0 a0_1 a0_2 a0_3).bind fun bt387 => (some (bt387.1 == a0_0 && (bt387.2.1.toList == a0_1.toList && (bt387.2.2.1 == a0_2 && (bt387.2.2.2.toList == a0_3.toList)))))) else (none)) else (if (wrap64 (a0_0 - 7)) = 1 then (if t386.toList = ([110, 111, 110, 101] : List UInt8) then ((kind_Bare.f k a0_0 a0_1 a0_2 a0_3).bind fun bt391 => (some (bt391.1 == a0_0 && (bt391.2.1.toList == a0_1.toList && (bt391.2.2.1 == a0_2 && (bt391.2.2.2.toList == a0_3.toList)))))) else (none)) else (none)))) else (none))) else (none)) else (none))) else (none))))) else ((kind_Ref.f k a0_0 a0_1 a0_2 a0_3).bind fun t368 => (if t368 = true then (none) else ((kind_Outer.f k a0_0 a0_1 a0_2 a0_3).bind fun t369 => (if t369 = 32 then ((kind_Layers.f k a0_0 a0_1 a0_2 a0_3).bind fun t370 => (if (t370.length : Int) = 0 then ((kind_Show.f k a0_0 a0_1 a0_2 a0_3).bind fun t373 => (if t373.toList = ([] : List UInt8) then ((kind_Bare.f k a0_0 a0_1 a0_2 a0_3).bind fun bt374 => (if (bt374.1 == a0_0 && (bt374.2.1.toList == a0_1.toList && (bt374.2.2.1 == a0_2 && (bt374.2.2.2.toList == a0_3.toList)))) = true then ((kind_Number.f k a0_0 a0_1 a0_2 a0_3).bind fun t378 => (if t378 = true then (none) else ((kind_Is.f k a0_0 a0_1 a0_2 a0_3 a0_0).bind fun t379 => (some (!t379))))) else (none))) else (none))) else (none))) else (none)))))) = some r := H
    have A9 := Aside0.mk A90
    clear A90
    by_cases c10 : t367 = true
    ·subst c10
     have H1 : ((caulkerlaw10_plain.f k a0_0 a0_1 a0_2 a0_3).bind fun t380 => (if t380 = true then ((kind_Layers.f k a0_0 a0_1 a0_2 a0_3).bind fun t395 => (if a0_0 = 5 then (caulkerlaw10_KindTells.j0 k t395 0 a0_0 a0_1 a0_2 a0_3) else (caulkerlaw10_KindTells.j0 k t395 1 a0_0 a0_1 a0_2 a0_3))) else ((kind_Ref.f k a0_0 a0_1 a0_2 a0_3).bind fun t381 => (if t381 = true then ((kind_Outer.f k a0_0 a0_1 a0_2 a0_3).bind fun t382 => (if 0 < (a0_3.size : Int) then (if t382 = (bt a0_3 0) then ((kind_Layers.f k a0_0 a0_1 a0_2 a0_3).bind fun t383 => (if (t383.length : Int) = 0 then ((kind_Show.f k a0_0 a0_1 a0_2 a0_3).bind fun t386 => (if (wrap64 (a0_0 - 7)) = 0 then (if t386.toList = ([110, 117, 108, 108] : List UInt8) then ((kind_Bare.f k a0_0 a0_1 a0_2 a0_3).bind fun bt387 => (some (bt387.1 == a0_0 && (bt387.2.1.toList == a0_1.toList && (bt387.2.2.1 == a0_2 && (bt387.2.2.2.toList == a0_3.toList)))))) else (none)) else (if (wrap64 (a0_0 - 7)) = 1 then (if t386.toList = ([110, 111, 110, 101] : List UInt8) then ((kind_Bare.f k a0_0 a0_1 a0_2 a0_3).bind fun bt391 => (some (bt391.1 == a0_0 && (bt391.2.1.toList == a0_1.toList && (bt391.2.2.1 == a0_2 && (bt391.2.2.2.toList == a0_3.toList)))))) else (none)) else (none)))) else (none))) else (none)) else (none))) else (none))))) = some r := by rw [if_pos rfl] at H; exact H
     clear H
     have H := H1
     clear H1
     replace H := Option.bind_eq_some_iff.mp H
     obtain ⟨t380, A110, H⟩ := H
     replace H : (if t380 = true then ((kind_Layers.f k a0_0 a0_1 a0_2 a0_3).bind fun t395 => (if a0_0 = 5 then (caulkerlaw10_KindTells.j0 k t395 0 a0_0 a0_1 a0_2 a0_3) else (caulkerlaw10_KindTells.j0 k t395 1 a0_0 a0_1 a0_2 a0_3))) else ((kind_Ref.f k a0_0 a0_1 a0_2 a0_3).bind fun t381 => (if t381 = true then ((kind_Outer.f k a0_0 a0_1 a0_2 a0_3).bind fun t382 => (if 0 < (a0_3.size : Int) then (if t382 = (bt a0_3 0) then ((kind_Layers.f k a0_0 a0_1 a0_2 a0_3).bind fun t383 => (if (t383.length : Int) = 0 then ((kind_Show.f k a0_0 a0_1 a0_2 a0_3).bind fun t386 => (if (wrap64 (a0_0 - 7)) = 0 then (if t386.toList = ([110, 117, 108, 108] : List UInt8) then ((kind_Bare.f k a0_0 a0_1 a0_2 a0_3).bind fun bt387 => (some (bt387.1 == a0_0 && (bt387.2.1.toList == a0_1.toList && (bt387.2.2.1 == a0_2 && (bt387.2.2.2.toList == a0_3.toList)))))) else (none)) else (if (wrap64 (a0_0 - 7)) = 1 then (if t386.toList = ([110, 111, 110, 101] : List UInt8) then ((kind_Bare.f k a0_0 a0_1 a0_2 a0_3).bind fun bt391 => (some (bt391.1 == a0_0 && (bt391.2.1.toList == a0_1.toList && (bt391.2.2.1 == a0_2 && (bt391.2.2.2.toList == a0_3.toList)))))) else (none)) else (none)))) else (none))) else (none)) else (none))) else (none)))) = some r := H
     have A11 := Aside0.mk A110
     clear A110
     by_cases c12 : t380 = true
     ·subst c12
      have H1 : ((kind_Layers.f k a0_0 a0_1 a0_2 a0_3).bind fun t395 => (if a0_0 = 5 then (caulkerlaw10_KindTells.j0 k t395 0 a0_0 a0_1 a0_2 a0_3) else (caulkerlaw10_KindTells.j0 k t395 1 a0_0 a0_1 a0_2 a0_3))) = some r := by rw [if_pos rfl] at H; exact H
      clear H
      have H := H1
      clear H1
      replace H := Option.bind_eq_some_iff.mp H
      obtain ⟨t395, A130, H⟩ := H
      replace H : (if a0_0 = 5 then (caulkerlaw10_KindTells.j0 k t395 0 a0_0 a0_1 a0_2 a0_3) else (caulkerlaw10_KindTells.j0 k t395 1 a0_0 a0_1 a0_2 a0_3)) = some r := H
      have A13 := Aside0.mk A130
      clear A130
      have HC14 := Aside0.mk H
      clear H
      go_enter Try.func8, Try.ntmps8
      try go_wp2_with (first | ((with_reducible refine gate_dst (N := 1) rfl ?_); refine box_event ?hg (N := 1) ?hd (cs := #[.int .i64 a0_0, .string a0_1, .int .i64 a0_2, .string a0_3]) (t := 23) ?hr ?_; (case hd => rfl); (case hg => rfl); (case hr => first | (go_simp; done) | (go_simp; rfl)); intro gb359 hg w15 hbox hb; have BK359 := Aside0.mk (hbox); have GW359 := pxw HB hg; have GE359 := pxw HB hg; replace HB := pxs HB hb; clear hb hbox hg) | ((with_reducible refine gate_callee (f := 9) rfl ?_); refine goesL_ (some 7) rfl rfl Try.func9 (by kernel_rfl) rfl #[] rfl (by (try simp only [List.map_toArray, List.map_cons, List.map_nil]); first | done | rfl | (simp only [List.length_drop, List.length_take]; rfl)) ?_; (with_reducible refine (caulkerlaw10_sorts.calls k  true _ A2.out).mono ?_); rintro e w16 ⟨rfl, hb⟩; refine ⟨_, rfl, ?_⟩; replace BK359 := pxk BK359 hb; replace HB := pxs HB hb; (try clear hb); (try clear hb2); (try clear hk); (try clear hi); obtain ⟨hcz17_0, hcz17_1, hcz17_2, hcz17_3, hfz17_0, hfz17_1, hfz17_2, hfz17_3⟩ := pxf4 BK359) | ((with_reducible refine gate_dst (N := 10) rfl ?_); refine Kd.R_lit k23 _ 23 ?hg (N := 10) ?hd (xs := ([(⟨a0_0, a0_1, a0_2, a0_3⟩ : S23)] : List (S23))) (inner := [.int .i64 a0_0, .string a0_1, .int .i64 a0_2, .string a0_3]) (ok := fun _ => True) (okp := fun _ => True) ?hr ?hp (fun _ hk => hk) trivial (Below.refl _ _) (Nat.le_refl _) (by simp) ?_; (case hd => rfl); (case hg => rfl); (case hr => first | (go_simp; done) | (go_simp; rfl)); (case hp => exact (Reps.c4 (show Kd.M k23 _ _ _ (⟨a0_0, a0_1, a0_2, a0_3⟩ : S23) [.int .i64 a0_0, .string a0_1, .int .i64 a0_2, .string a0_3] from (k23_mkM _ _ _ (⟨a0_0, a0_1, a0_2, a0_3⟩ : S23) )) (Reps.none _ _))); intro v362 w18 ho19 hb hg_ hnew_; clear hg_ hnew_; (first | rw [← Ny361.out] at ho19 | (simp only [Int.reduceToNat] at ho19; rw [← Ny361.out] at ho19)); have HO363 := Aside0.mk (Kd.R_lower (Kd.R_newB ho19 (g := gb359) (o := .cells #[.int .i64 a0_0, .string a0_1, .int .i64 a0_2, .string a0_3] 23 (0, 0)) (pxq BK359)) (below_size (pxb HB))); replace BK359 := pxk BK359 hb; replace HB := pxs HB hb; clear hb ho19; obtain ⟨Ao20, co20, eo20⟩ := Kd.R_slice HO363.out; subst eo20) | ((with_reducible refine gate_callee (f := 10) rfl ?_); refine goesL_ (some 11) rfl rfl Try.func10 (by kernel_rfl) rfl #[.slice Ao20 y361.length co20] rfl (by (try simp only [List.map_toArray, List.map_cons, List.map_nil]); first | done | rfl | (simp only [List.length_drop, List.length_take]; rfl)) ?_; (with_reducible refine (caulkerlaw10_small.calls k _ _ y361 true _ ?side1 ?side2 A4.out).mono ?_); (case side1 => repeat (first | exact (Kd.R_reads' HO363.out).2.2 | (with_reducible refine Kd.C_alloc ?_ _) | (with_reducible refine Kd.C_drewN ?_ _) | (with_reducible refine Kd.C_drew ?_))); (case side2 => exact (Kd.R_reads' HO363.out).2.1); rintro e w21 ⟨rfl, hb⟩; refine ⟨_, rfl, ?_⟩; replace HO363 := Aside0.mk (Kd.R_below (pxr HO363) hb); replace BK359 := pxk BK359 hb; replace HB := pxs HB hb; (try clear hb); (try clear hb2); (try clear hk); (try clear hi)))
      have n0_ := Aside0.mk (Kd.R_drew HO363.out)
      have n1_ := Aside0.mk (blk_drew BK359.out)
      have n2_ := Aside0.mk (below_drew1 HB.out)
      clear HO363
      clear BK359
      clear HB
      have HO363 := n0_
      have BK359 := n1_
      have HB := n2_
      clear n0_ n1_ n2_
      refine start_ (n := 5) (S := fun w' => w'.cell? ⟨gb359, 0, none⟩ = some (.int .i64 a0_0) ∧ w'.cell? ⟨gb359, 1, none⟩ = some (.string a0_1) ∧ w'.cell? ⟨gb359, 2, none⟩ = some (.int .i64 a0_2) ∧ w'.cell? ⟨gb359, 3, none⟩ = some (.string a0_3)) (ds := []) #[false, false, false, false, false] (by kernel_rfl) rfl rfl ⟨(blk_cell BK359.out 0).trans rfl, (blk_cell BK359.out 1).trans rfl, (blk_cell BK359.out 2).trans rfl, (blk_cell BK359.out 3).trans rfl⟩ (fun hHeld => ?_)
      generalize w21.drew = w22 at HO363 BK359 HB hHeld ⊢
      refine take_ (i := 0) (N := some 13) (v := ?_) (a' := ?_) #[true, false, false, false, false] rfl rfl (by kernel_rfl) (fun _ _ _ h => h) (Or.inl ⟨by rfl, ?_⟩) hHeld ?_ ?_
      rotate_left
      ·rintro w' ⟨s0, s1, s2, s3⟩
       go_simp
       with_reducible rfl
      rotate_left
      ·simp only [Act.put, List.setIfInBounds_toArray, List.set_cons_zero, List.set_cons_succ, i64_w, i32_w]
       rfl
      refine take_ (i := 2) (N := some 15) (v := ?_) (a' := ?_) #[true, false, true, false, false] rfl rfl (by kernel_rfl) (fun _ _ _ h => h) (Or.inl ⟨by rfl, ?_⟩) hHeld ?_ ?_
      rotate_left
      ·rintro w' ⟨s0, s1, s2, s3⟩
       go_simp
       with_reducible rfl
      rotate_left
      ·simp only [Act.put, List.setIfInBounds_toArray, List.set_cons_zero, List.set_cons_succ, i64_w, i32_w]
       rfl
      refine one_ (i := 1) (N := some 14) #[true, true, true, false, false] rfl rfl (by kernel_rfl) (by decide) (fun K hK => ?_)
      refine goes_ Try.func26 (by kernel_rfl) rfl #[.agg #[.int .i64 a0_0, .string a0_1, .int .i64 a0_2, .string a0_3]] (by rfl) rfl rfl (by (try simp only [List.map_toArray, List.map_cons, List.map_nil]); first | done | rfl | (simp only [List.length_drop, List.length_take]; rfl)) ?_
      with_reducible refine (kind_Right.calls k a0_0 a0_1 a0_2 a0_3 t365 _ A6.out).mono ?_
      rintro e w23 ⟨rfl, hb⟩
      refine ⟨_, rfl, ?_⟩
      have n0_ := Aside0.mk (Kd.R_below (pxr HO363) hb)
      have n1_ := pxk BK359 hb
      have n2_ := pxs HB hb
      clear HO363
      clear BK359
      clear HB
      have HO363 := n0_
      have BK359 := n1_
      have HB := n2_
      clear n0_ n1_ n2_
      (try clear hb)
      (try clear hb2)
      (try clear hk)
      (try clear hi)
      refine hK.out _ _ ⟨(blk_cell BK359.out 0).trans rfl, (blk_cell BK359.out 1).trans rfl, (blk_cell BK359.out 2).trans rfl, (blk_cell BK359.out 3).trans rfl⟩ (fun hHeld => ?_)
      clear hK K
      refine norm_ (a' := ?_) ?_ ?_
      rotate_left
      ·show Act.put _ (some 14) _ = _
       simp only [Act.put, List.setIfInBounds_toArray, List.set_cons_zero, List.set_cons_succ, i64_w, i32_w]
       rfl
      refine one_ (i := 3) (N := some 16) #[true, true, true, true, false] rfl rfl (by kernel_rfl) (by decide) (fun K hK => ?_)
      refine goes_ Try.func11 (by kernel_rfl) rfl #[.agg #[.int .i64 a0_0, .string a0_1, .int .i64 a0_2, .string a0_3]] (by rfl) rfl rfl (by (try simp only [List.map_toArray, List.map_cons, List.map_nil]); first | done | rfl | (simp only [List.length_drop, List.length_take]; rfl)) ?_
      with_reducible refine (caulkerlaw10_right.calls k a0_0 a0_1 a0_2 a0_3 t366 _ A7.out).mono ?_
      rintro e w24 ⟨rfl, hb⟩
      refine ⟨_, rfl, ?_⟩
      have n0_ := Aside0.mk (Kd.R_below (pxr HO363) hb)
      have n1_ := pxk BK359 hb
      have n2_ := pxs HB hb
      clear HO363
      clear BK359
      clear HB
      have HO363 := n0_
      have BK359 := n1_
      have HB := n2_
      clear n0_ n1_ n2_
      (try clear hb)
      (try clear hb2)
      (try clear hk)
      (try clear hi)
      refine hK.out _ _ ⟨(blk_cell BK359.out 0).trans rfl, (blk_cell BK359.out 1).trans rfl, (blk_cell BK359.out 2).trans rfl, (blk_cell BK359.out 3).trans rfl⟩ (fun hHeld => ?_)
      clear hK K
      refine norm_ (a' := ?_) ?_ ?_
      rotate_left
      ·show Act.put _ (some 16) _ = _
       simp only [Act.put, List.setIfInBounds_toArray, List.set_cons_zero, List.set_cons_succ, i64_w, i32_w]
       rfl
      refine pure_ (i := 4) (N := some 17) (v := ?_) (a' := ?_) #[true, true, true, true, true] rfl rfl (by kernel_rfl) (fun _ _ _ h => h) (Or.inl ⟨by rfl, ?_⟩) ?_ ?_
      rotate_left
      ·intro w'
       go_simp
       with_reducible rfl
      rotate_left
      ·simp only [Act.put, List.setIfInBounds_toArray, List.set_cons_zero, List.set_cons_succ, i64_w, i32_w]
       rfl
      refine done_ (by kernel_rfl) ?_
      have hcz25_0 : w24.cell? ⟨gb359, 0, none⟩ = some (.int .i64 a0_0) := (blk_cell BK359.out 0).trans rfl
      have hcz25_1 : w24.cell? ⟨gb359, 1, none⟩ = some (.string a0_1) := (blk_cell BK359.out 1).trans rfl
      have hcz25_2 : w24.cell? ⟨gb359, 2, none⟩ = some (.int .i64 a0_2) := (blk_cell BK359.out 2).trans rfl
      have hcz25_3 : w24.cell? ⟨gb359, 3, none⟩ = some (.string a0_3) := (blk_cell BK359.out 3).trans rfl
      have hfz25_0 := blk_frozen BK359.out 0
      have hfz25_1 := blk_frozen BK359.out 1
      have hfz25_2 := blk_frozen BK359.out 2
      have hfz25_3 := blk_frozen BK359.out 3
      go_upto_if 97 with (first | ((with_reducible refine gate_callee (f := 11) rfl ?_); refine goesL_ (some 19) rfl rfl Try.func11 (by kernel_rfl) rfl #[.agg #[.int .i64 a0_0, .string a0_1, .int .i64 a0_2, .string a0_3]] rfl (by (try simp only [List.map_toArray, List.map_cons, List.map_nil]); first | done | rfl | (simp only [List.length_drop, List.length_take]; rfl)) ?_; (with_reducible refine (caulkerlaw10_right.calls k a0_0 a0_1 a0_2 a0_3 true _ A9.out).mono ?_); rintro e w26 ⟨rfl, hb⟩; refine ⟨_, rfl, ?_⟩; replace HO363 := Aside0.mk (Kd.R_below (pxr HO363) hb); replace BK359 := pxk BK359 hb; replace HB := pxs HB hb; (try clear hb); (try clear hb2); (try clear hk); (try clear hi); obtain ⟨hcz27_0, hcz27_1, hcz27_2, hcz27_3, hfz27_0, hfz27_1, hfz27_2, hfz27_3⟩ := pxf4 BK359) | ((with_reducible refine gate_callee (f := 17) rfl ?_); refine goesL_ (some 59) rfl rfl Try.func17 (by kernel_rfl) rfl #[.agg #[.int .i64 a0_0, .string a0_1, .int .i64 a0_2, .string a0_3]] rfl (by (try simp only [List.map_toArray, List.map_cons, List.map_nil]); first | done | rfl | (simp only [List.length_drop, List.length_take]; rfl)) ?_; (with_reducible refine (caulkerlaw10_plain.calls k a0_0 a0_1 a0_2 a0_3 true _ A11.out).mono ?_); rintro e w28 ⟨rfl, hb⟩; refine ⟨_, rfl, ?_⟩; replace HO363 := Aside0.mk (Kd.R_below (pxr HO363) hb); replace BK359 := pxk BK359 hb; replace HB := pxs HB hb; (try clear hb); (try clear hb2); (try clear hk); (try clear hi); obtain ⟨hcz29_0, hcz29_1, hcz29_2, hcz29_3, hfz29_0, hfz29_1, hfz29_2, hfz29_3⟩ := pxf4 BK359) | ((with_reducible refine gate_callee (f := 28) rfl ?_); refine goesL_ (some 94) rfl rfl Try.func28 (by kernel_rfl) rfl #[.agg #[.int .i64 a0_0, .string a0_1, .int .i64 a0_2, .string a0_3]] rfl (by (try simp only [List.map_toArray, List.map_cons, List.map_nil]); first | done | rfl | (simp only [List.length_drop, List.length_take]; rfl)) ?_; (with_reducible refine (kind_Layers.calls k a0_0 a0_1 a0_2 a0_3 t395 _ A13.out).mono ?_); rintro e w30 ⟨v396, rfl, ho0, hb⟩; refine ⟨_, rfl, ?_⟩; have HO397 := Aside0.mk (Kd.R_lower ho0 (below_size (pxb HB))); replace HO363 := Aside0.mk (Kd.R_below (pxr HO363) hb); replace BK359 := pxk BK359 hb; replace HB := pxs HB hb; (try clear hb); (try clear hb2); (try clear hk); (try clear hi); (try clear ho0); obtain ⟨hcz31_0, hcz31_1, hcz31_2, hcz31_3, hfz31_0, hfz31_1, hfz31_2, hfz31_3⟩ := pxf4 BK359))
      (try simp only [Act.put, List.setIfInBounds_toArray, List.set_cons_zero, List.set_cons_succ])
      go_cut [4] (fun v4 wc => ∃ (kq : Nat) (x4_13 : Int), v4 = .int .i64 x4_13 ∧ Aside0 (caulkerlaw10_KindTells.j0 kq t395 x4_13 a0_0 a0_1 a0_2 a0_3 = some r) ∧ Aside0 (kq ≤ k) ∧ Aside0 (Kd.R (Kd.int .i64) 3 wc w.heap.size (fun _ => True) v396 t395) ∧ Aside0 (wc.heap[gb359]? = some (.cells #[.int .i64 a0_0, .string a0_1, .int .i64 a0_2, .string a0_3] 23 (0, 0))) ∧ Aside0 (Below w.heap.size w wc))
      case first =>
       have H := HC14.out
       clear HC14
       by_cases c32 : a0_0 = 5
       ·rw [if_pos c32] at H
        have c32b0 : (a0_0 == 5) = true := beq_iff_eq.mpr c32
        have c32b1 : (a0_0 != 5) = false := bne_eq_false_iff_eq.mpr c32
        clear c32
        (first | rw [c32b0] | (simp only [i64_w, i32_w]; rw [c32b0]) | skip)
        have H' := Aside0.mk H
        clear H
        go_wp2
        go_meet
        case rel => exact ⟨_, (0), (by first | rfl | (simp; done) | (simp [*]; done)), H', ⟨by first | omega | exact Nat.le_refl _⟩, ⟨pxr HO397⟩, ⟨pxq BK359⟩, ⟨pxb HB⟩⟩
       ·rw [if_neg c32] at H
        have c32b0 : (a0_0 == 5) = false := beq_eq_false_iff_ne.mpr c32
        have c32b1 : (a0_0 != 5) = true := bne_iff_ne.mpr c32
        (first | rw [c32b0] | (simp only [i64_w, i32_w]; rw [c32b0]) | skip)
        have H' := Aside0.mk H
        clear H
        go_wp2
        go_meet
        case rel => exact ⟨_, (1), (by first | rfl | (simp; done) | (simp [*]; done)), H', ⟨by first | omega | exact Nat.le_refl _⟩, ⟨pxr HO397⟩, ⟨pxq BK359⟩, ⟨pxb HB⟩⟩
      case rest => as_aux_lemma =>
       clear HC14
       (try clear c1); (try clear c2); (try clear p2); (try clear c3); (try clear c4); (try clear c5); (try clear p6); (try clear c8); (try clear c8b0); (try clear c8b1); (try clear c8b2); (try clear c9); (try clear c10); (try clear c11); (try clear c12); (try clear c17); (try clear c26); (try clear c28); (try clear c32); (try clear c32b0); (try clear c32b1); (try clear hcz17_0 hcz17_1 hcz17_2 hcz17_3 hfz17_0 hfz17_1 hfz17_2 hfz17_3); (try clear hcz25_0 hcz25_1 hcz25_2 hcz25_3 hfz25_0 hfz25_1 hfz25_2 hfz25_3); (try clear hcz27_0 hcz27_1 hcz27_2 hcz27_3 hfz27_0 hfz27_1 hfz27_2 hfz27_3); (try clear hcz29_0 hcz29_1 hcz29_2 hcz29_3 hfz29_0 hfz29_1 hfz29_2 hfz29_3); (try clear hcz31_0 hcz31_1 hcz31_2 hcz31_3 hfz31_0 hfz31_1 hfz31_2 hfz31_3)
       obtain ⟨kq, x4_13, rfl, HA, HJ13, HO_3, BK359, HB⟩ := hcut
       cases kq with
       | zero => exact absurd HA.out (by simp [caulkerlaw10_KindTells.j0])
       | succ kj13 =>
        have H := HA.out
        clear HA
        simp only [caulkerlaw10_KindTells.j0] at H
        by_cases c33 : (t395.length : Int) = (wrap64 ((wrap64 (a0_2 + 1)) - x4_13))
        ·rw [if_pos c33] at H
         have c33b0 : ((t395.length : Int) == (wrap64 ((wrap64 (a0_2 + 1)) - x4_13))) = true := beq_iff_eq.mpr c33
         have c33b1 : ((t395.length : Int) != (wrap64 ((wrap64 (a0_2 + 1)) - x4_13))) = false := bne_eq_false_iff_eq.mpr c33
         clear c33
         have H' := Aside0.mk H
         clear H
         obtain ⟨Ao34, co34, eo34⟩ := Kd.R_slice HO_3.out
         subst eo34
         have hcz35_0 : wc.cell? ⟨gb359, 0, none⟩ = some (.int .i64 a0_0) := (blk_cell BK359.out 0).trans rfl
         have hcz35_1 : wc.cell? ⟨gb359, 1, none⟩ = some (.string a0_1) := (blk_cell BK359.out 1).trans rfl
         have hcz35_2 : wc.cell? ⟨gb359, 2, none⟩ = some (.int .i64 a0_2) := (blk_cell BK359.out 2).trans rfl
         have hcz35_3 : wc.cell? ⟨gb359, 3, none⟩ = some (.string a0_3) := (blk_cell BK359.out 3).trans rfl
         have hfz35_0 := blk_frozen BK359.out 0
         have hfz35_1 := blk_frozen BK359.out 1
         have hfz35_2 := blk_frozen BK359.out 2
         have hfz35_3 := blk_frozen BK359.out 3
         go_wp2
         go_loopg [108] kj13 (fun kq v108 w' => ∃ (x108_2 : Int), v108 = .int .i64 x108_2 ∧ Aside0 (caulkerlaw10_KindTells.l0 kq x4_13 t395 (t395.length : Int) x108_2 a0_0 a0_1 a0_2 a0_3 = some r) ∧ Aside0 (kq ≤ kj13) ∧ Aside0 (Kd.R (Kd.int .i64) 3 w' w.heap.size (fun _ => True) (.slice Ao34 t395.length co34) t395) ∧ Aside0 (w'.heap[gb359]? = some (.cells #[.int .i64 a0_0, .string a0_1, .int .i64 a0_2, .string a0_3] 23 (0, 0))) ∧ Aside0 (Below w.heap.size w w'))
         case atStart => exact ⟨(0), (by first | rfl | (simp; done) | (simp [*]; done)), H', ⟨Nat.le_refl _⟩, ⟨pxr HO_3⟩, ⟨pxq BK359⟩, ⟨pxb HB⟩⟩
         case round =>
          clear H'
          (try clear c1); (try clear c2); (try clear p2); (try clear c3); (try clear c4); (try clear c5); (try clear p6); (try clear c8); (try clear c8b0); (try clear c8b1); (try clear c8b2); (try clear c9); (try clear c10); (try clear c11); (try clear c12); (try clear c17); (try clear c26); (try clear c28); (try clear c32); (try clear c32b0); (try clear c32b1); (try clear c33); (try clear c33b0); (try clear c33b1); (try clear hcz17_0 hcz17_1 hcz17_2 hcz17_3 hfz17_0 hfz17_1 hfz17_2 hfz17_3); (try clear hcz25_0 hcz25_1 hcz25_2 hcz25_3 hfz25_0 hfz25_1 hfz25_2 hfz25_3); (try clear hcz27_0 hcz27_1 hcz27_2 hcz27_3 hfz27_0 hfz27_1 hfz27_2 hfz27_3); (try clear hcz29_0 hcz29_1 hcz29_2 hcz29_3 hfz29_0 hfz29_1 hfz29_2 hfz29_3); (try clear hcz31_0 hcz31_1 hcz31_2 hcz31_3 hfz31_0 hfz31_1 hfz31_2 hfz31_3); (try clear hcz35_0 hcz35_1 hcz35_2 hcz35_3 hfz35_0 hfz35_1 hfz35_2 hfz35_3)
          obtain ⟨x108_2, rfl, HA, HK2, HO_106, BK359, HB⟩ := hrel
          cases gk with
          | zero => exact absurd HA.out (by simp [caulkerlaw10_KindTells.l0])
          | succ k2 =>
           have H := HA.out
           clear HA
           simp only [caulkerlaw10_KindTells.l0] at H
           by_cases c36 : x108_2 < (t395.length : Int)
           ·rw [if_pos c36] at H
            have c36b0 : decide (x108_2 < (t395.length : Int)) = true := decide_eq_true c36
            clear c36
            by_cases c37 : 0 ≤ x108_2
            ·rw [if_pos c37] at H
             have c37b0 : decide (0 ≤ x108_2) = true := decide_eq_true c37
             clear c37
             by_cases c38 : x108_2 < (t395.length : Int)
             ·rw [if_pos c38] at H
              have c38b0 : decide (x108_2 < (t395.length : Int)) = true := decide_eq_true c38
              clear c38
              by_cases c39 : (rd t395 x108_2) = (wrap64 (x4_13 + x108_2))
              ·rw [if_pos c39] at H
               have c39b0 : ((rd t395 x108_2) == (wrap64 (x4_13 + x108_2))) = true := beq_iff_eq.mpr c39
               have c39b1 : ((rd t395 x108_2) != (wrap64 (x4_13 + x108_2))) = false := bne_eq_false_iff_eq.mpr c39
               clear c39
               have H' := Aside0.mk H
               clear H
               have p398 : 0 ≤ (x108_2 : Int) := pxd
               have q398 : x108_2 < (t395.length : Int) := pxd
               obtain ⟨ad398, e398, hx398_0⟩ := Kd.at_int (Kd.R_reads' HO_106.out).2.2 x108_2 p398 q398
               cases e398
               replace p398 := eq_true p398
               replace q398 := eq_true q398
               go_wp2
               go_roundg k2
               case measure => have := HJ13.out; have := HK2.out; omega
               case rel => exact ⟨(wrap64 (x108_2 + 1)), (by first | rfl | (simp; done) | (simp [*]; done)), H', ⟨by have := HJ13.out; have := HK2.out; omega⟩, ⟨pxr HO_106⟩, ⟨pxq BK359⟩, ⟨pxb HB⟩⟩
              ·rw [if_neg c39] at H
               exact absurd H (by simp)
             ·rw [if_neg c38] at H
              exact absurd H (by simp)
            ·rw [if_neg c37] at H
             exact absurd H (by simp)
           ·rw [if_neg c36] at H
            have c36b0 : decide (x108_2 < (t395.length : Int)) = false := decide_eq_false c36
            clear c36
            replace H := Option.bind_eq_some_iff.mp H
            obtain ⟨t399, A400, H⟩ := H
            replace H : (if a0_2 > 0 then (if (t399 == true) = true then ((kind_Outer.f k2 a0_0 a0_1 a0_2 a0_3).bind fun t400 => (if 0 ≤ a0_2 then (if a0_2 < (a0_3.size : Int) then (if t400 = (bt a0_3 a0_2) then ((kind_Show.f k2 a0_0 a0_1 a0_2 a0_3).bind fun t401 => ((caulkerref07_Type.f k2 a0_0 a0_1 a0_2 a0_3).bind fun t402 => (if t401.toList = t402.toList then ((kind_Bare.f k2 a0_0 a0_1 a0_2 a0_3).bind fun bt403 => ((caulkerref07_Bare.f a0_0 a0_1 a0_2 a0_3).bind fun bt407 => (some (bt403.1 == bt407.1 && (bt403.2.1.toList == bt407.2.1.toList && (bt403.2.2.1 == bt407.2.2.1 && (bt403.2.2.2.toList == bt407.2.2.2.toList))))))) else (none)))) else (none)) else (none)) else (none))) else (none)) else (if (t399 == (a0_0 == 5)) = true then ((kind_Outer.f k2 a0_0 a0_1 a0_2 a0_3).bind fun t411 => (if 0 ≤ a0_2 then (if a0_2 < (a0_3.size : Int) then (if t411 = (bt a0_3 a0_2) then ((kind_Show.f k2 a0_0 a0_1 a0_2 a0_3).bind fun t412 => ((caulkerref07_Type.f k2 a0_0 a0_1 a0_2 a0_3).bind fun t413 => (if t412.toList = t413.toList then ((kind_Bare.f k2 a0_0 a0_1 a0_2 a0_3).bind fun bt414 => ((caulkerref07_Bare.f a0_0 a0_1 a0_2 a0_3).bind fun bt418 => (some (bt414.1 == bt418.1 && (bt414.2.1.toList == bt418.2.1.toList && (bt414.2.2.1 == bt418.2.2.1 && (bt414.2.2.2.toList == bt418.2.2.2.toList))))))) else (none)))) else (none)) else (none)) else (none))) else (none))) = some r := H
            have A40 := Aside0.mk A400
            clear A400
            by_cases c41 : a0_2 > 0
            ·rw [if_pos c41] at H
             have c41b0 : decide (0 < a0_2) = true := decide_eq_true c41
             clear c41
             by_cases c42 : (t399 == true) = true
             ·rw [if_pos c42] at H
              have c42b0 : (t399 == true) = true := c42
              (try (have c42b1 : decide (t399 = true) = true := by simpa using c42))
              (try (have c42b2 : (t399 == true) = true := by simpa using c42))
              clear c42
              replace H := Option.bind_eq_some_iff.mp H
              obtain ⟨t400, A430, H⟩ := H
              replace H : (if 0 ≤ a0_2 then (if a0_2 < (a0_3.size : Int) then (if t400 = (bt a0_3 a0_2) then ((kind_Show.f k2 a0_0 a0_1 a0_2 a0_3).bind fun t401 => ((caulkerref07_Type.f k2 a0_0 a0_1 a0_2 a0_3).bind fun t402 => (if t401.toList = t402.toList then ((kind_Bare.f k2 a0_0 a0_1 a0_2 a0_3).bind fun bt403 => ((caulkerref07_Bare.f a0_0 a0_1 a0_2 a0_3).bind fun bt407 => (some (bt403.1 == bt407.1 && (bt403.2.1.toList == bt407.2.1.toList && (bt403.2.2.1 == bt407.2.2.1 && (bt403.2.2.2.toList == bt407.2.2.2.toList))))))) else (none)))) else (none)) else (none)) else (none)) = some r := H
              have A43 := Aside0.mk A430
              clear A430
              by_cases c44 : 0 ≤ a0_2
              ·rw [if_pos c44] at H
               have c44b0 : decide (0 ≤ a0_2) = true := decide_eq_true c44
               clear c44
               by_cases c45 : a0_2 < (a0_3.size : Int)
               ·rw [if_pos c45] at H
                have c45b0 : decide (a0_2 < (a0_3.size : Int)) = true := decide_eq_true c45
                clear c45
                by_cases c47 : t400 = (bt a0_3 a0_2)
                ·rw [if_pos c47] at H
                 have c47b0 : (t400 == (bt a0_3 a0_2)) = true := beq_iff_eq.mpr c47
                 have c47b1 : (t400 != (bt a0_3 a0_2)) = false := bne_eq_false_iff_eq.mpr c47
                 clear c47
                 replace H := Option.bind_eq_some_iff.mp H
                 obtain ⟨t401, A480, H⟩ := H
                 replace H : ((caulkerref07_Type.f k2 a0_0 a0_1 a0_2 a0_3).bind fun t402 => (if t401.toList = t402.toList then ((kind_Bare.f k2 a0_0 a0_1 a0_2 a0_3).bind fun bt403 => ((caulkerref07_Bare.f a0_0 a0_1 a0_2 a0_3).bind fun bt407 => (some (bt403.1 == bt407.1 && (bt403.2.1.toList == bt407.2.1.toList && (bt403.2.2.1 == bt407.2.2.1 && (bt403.2.2.2.toList == bt407.2.2.2.toList))))))) else (none))) = some r := H
                 have A48 := Aside0.mk A480
                 clear A480
                 replace H := Option.bind_eq_some_iff.mp H
                 obtain ⟨t402, A490, H⟩ := H
                 replace H : (if t401.toList = t402.toList then ((kind_Bare.f k2 a0_0 a0_1 a0_2 a0_3).bind fun bt403 => ((caulkerref07_Bare.f a0_0 a0_1 a0_2 a0_3).bind fun bt407 => (some (bt403.1 == bt407.1 && (bt403.2.1.toList == bt407.2.1.toList && (bt403.2.2.1 == bt407.2.2.1 && (bt403.2.2.2.toList == bt407.2.2.2.toList))))))) else (none)) = some r := H
                 have A49 := Aside0.mk A490
                 clear A490
                 by_cases c50 : t401.toList = t402.toList
                 ·rw [if_pos c50] at H
                  have c50b0 : (t401.toList == t402.toList) = true := beq_iff_eq.mpr c50
                  have c50b1 : (t401.toList != t402.toList) = false := bne_eq_false_iff_eq.mpr c50
                  clear c50
                  replace H := Option.bind_eq_some_iff.mp H
                  obtain ⟨⟨t403, t404, t405, t406⟩, A510, H⟩ := H
                  replace H : ((caulkerref07_Bare.f a0_0 a0_1 a0_2 a0_3).bind fun bt407 => (some (t403 == bt407.1 && (t404.toList == bt407.2.1.toList && (t405 == bt407.2.2.1 && (t406.toList == bt407.2.2.2.toList)))))) = some r := H
                  have A51 := Aside0.mk A510
                  clear A510
                  replace H := Option.bind_eq_some_iff.mp H
                  obtain ⟨⟨t407, t408, t409, t410⟩, A520, H⟩ := H
                  replace H : (some (t403 == t407 && (t404.toList == t408.toList && (t405 == t409 && (t406.toList == t410.toList))))) = some r := H
                  have A52 := Aside0.mk A520
                  clear A520
                  obtain rfl := Option.some.inj H
                  try go_wp2
                  have n0_ := Aside0.mk (Kd.R_drew HO_106.out)
                  have n1_ := Aside0.mk (blk_drew BK359.out)
                  have n2_ := Aside0.mk (below_drew1 HB.out)
                  clear HO_106
                  clear BK359
                  clear HB
                  have HO_106 := n0_
                  have BK359 := n1_
                  have HB := n2_
                  clear n0_ n1_ n2_
                  have p46 : 0 ≤ (a0_2 : Int) := pxd
                  have q46 : a0_2 < (a0_3.size : Int) := pxd
                  have hx46 := bt_at a0_3 a0_2
                  replace p46 := eq_true p46
                  replace q46 := eq_true q46
                  refine start_ (n := 36) (S := fun w' => w'.cell? ⟨gb359, 0, none⟩ = some (.int .i64 a0_0) ∧ w'.cell? ⟨gb359, 1, none⟩ = some (.string a0_1) ∧ w'.cell? ⟨gb359, 2, none⟩ = some (.int .i64 a0_2) ∧ w'.cell? ⟨gb359, 3, none⟩ = some (.string a0_3)) (ds := []) #[false, false, false, false, false, false, false, false, false, false, false, false, false, false, false, false, false, false, false, false, false, false, false, false, false, false, false, false, false, false, false, false, false, false, false, false] (by kernel_rfl) rfl rfl ⟨(blk_cell BK359.out 0).trans rfl, (blk_cell BK359.out 1).trans rfl, (blk_cell BK359.out 2).trans rfl, (blk_cell BK359.out 3).trans rfl⟩ (fun hHeld => ?_); refine with_tabW caulkerlaw10_KindTells.tab23 caulkerlaw10_KindTells.bits23 (fun HT_ HW_ => ?_)
                  generalize wr.drew = w53 at HO_106 BK359 HB hHeld ⊢
                  refine pure_ (i := 2) (N := some 121) (v := ?_) (a' := ?_) #[false, false, true, false, false, false, false, false, false, false, false, false, false, false, false, false, false, false, false, false, false, false, false, false, false, false, false, false, false, false, false, false, false, false, false, false] rfl rfl (any_of HT_.out (by kernel_rfl)) (fun _ _ _ h => h) (Or.inl ⟨by rfl, ?_⟩) ?_ ?_
                  rotate_left
                  ·intro w'
                   go_simp
                   with_reducible rfl
                  rotate_left
                  ·simp only [Act.put, List.setIfInBounds_toArray, List.set_cons_zero, List.set_cons_succ, i64_w, i32_w]
                   rfl
                  refine take_ (i := 0) (N := some 119) (v := ?_) (a' := ?_) #[true, false, true, false, false, false, false, false, false, false, false, false, false, false, false, false, false, false, false, false, false, false, false, false, false, false, false, false, false, false, false, false, false, false, false, false] rfl rfl (take_ofW HT_.out HW_.out (by kernel_rfl)) (fun _ _ _ h => h) (Or.inl ⟨by rfl, ?_⟩) hHeld ?_ ?_
                  rotate_left
                  ·rintro w' ⟨s0, s1, s2, s3⟩
                   go_simp
                   with_reducible rfl
                  rotate_left
                  ·simp only [Act.put, List.setIfInBounds_toArray, List.set_cons_zero, List.set_cons_succ, i64_w, i32_w]
                   rfl
                  refine take_ (i := 3) (N := some 122) (v := ?_) (a' := ?_) #[true, false, true, true, false, false, false, false, false, false, false, false, false, false, false, false, false, false, false, false, false, false, false, false, false, false, false, false, false, false, false, false, false, false, false, false] rfl rfl (take_ofW HT_.out HW_.out (by kernel_rfl)) (fun _ _ _ h => h) (Or.inl ⟨by rfl, ?_⟩) hHeld ?_ ?_
                  rotate_left
                  ·rintro w' ⟨s0, s1, s2, s3⟩
                   go_simp
                   with_reducible rfl
                  rotate_left
                  ·simp only [Act.put, List.setIfInBounds_toArray, List.set_cons_zero, List.set_cons_succ, i64_w, i32_w]
                   rfl
                  refine pure_ (i := 4) (N := some 123) (v := ?_) (a' := ?_) #[true, false, true, true, true, false, false, false, false, false, false, false, false, false, false, false, false, false, false, false, false, false, false, false, false, false, false, false, false, false, false, false, false, false, false, false] rfl rfl (any_of HT_.out (by kernel_rfl)) (fun _ _ _ h => h) (Or.inl ⟨by rfl, ?_⟩) ?_ ?_
                  rotate_left
                  ·intro w'
                   go_simp
                   with_reducible rfl
                  rotate_left
                  ·simp only [Act.put, List.setIfInBounds_toArray, List.set_cons_zero, List.set_cons_succ, i64_w, i32_w]
                   rfl
                  refine one_ (i := 1) (N := some 120) #[true, true, true, true, true, false, false, false, false, false, false, false, false, false, false, false, false, false, false, false, false, false, false, false, false, false, false, false, false, false, false, false, false, false, false, false] rfl rfl (one_of HT_.out (by kernel_rfl)) (by decide) (fun K hK => ?_)
                  refine goes_ Try.func27 (by kernel_rfl) rfl #[.agg #[.int .i64 a0_0, .string a0_1, .int .i64 a0_2, .string a0_3]] (by rfl) rfl rfl (by (try simp only [List.map_toArray, List.map_cons, List.map_nil]); first | done | rfl | (simp only [List.length_drop, List.length_take]; rfl)) ?_
                  with_reducible refine (kind_Ref.calls k2 a0_0 a0_1 a0_2 a0_3 t399 _ A40.out).mono ?_
                  rintro e w54 ⟨rfl, hb⟩
                  refine ⟨_, rfl, ?_⟩
                  have n0_ := Aside0.mk (Kd.R_below (pxr HO_106) hb)
                  have n1_ := pxk BK359 hb
                  have n2_ := pxs HB hb
                  clear HO_106
                  clear BK359
                  clear HB
                  have HO_106 := n0_
                  have BK359 := n1_
                  have HB := n2_
                  clear n0_ n1_ n2_
                  (try clear hb)
                  (try clear hb2)
                  (try clear hk)
                  (try clear hi)
                  refine hK.out _ _ ⟨(blk_cell BK359.out 0).trans rfl, (blk_cell BK359.out 1).trans rfl, (blk_cell BK359.out 2).trans rfl, (blk_cell BK359.out 3).trans rfl⟩ (fun hHeld => ?_)
                  clear hK K
                  refine norm_ (a' := ?_) ?_ ?_
                  rotate_left
                  ·show Act.put _ (some 120) _ = _
                   simp only [Act.put, List.setIfInBounds_toArray, List.set_cons_zero, List.set_cons_succ, i64_w, i32_w]
                   rfl
                  refine pure_ (i := 5) (N := some 124) (v := ?_) (a' := ?_) #[true, true, true, true, true, true, false, false, false, false, false, false, false, false, false, false, false, false, false, false, false, false, false, false, false, false, false, false, false, false, false, false, false, false, false, false] rfl rfl (any_of HT_.out (by kernel_rfl)) (fun _ _ _ h => h) (Or.inl ⟨by rfl, ?_⟩) ?_ ?_
                  rotate_left
                  ·intro w'
                   go_simp
                   with_reducible rfl
                  rotate_left
                  ·simp only [Act.put, List.setIfInBounds_toArray, List.set_cons_zero, List.set_cons_succ, i64_w, i32_w]
                   rfl
                  refine pure_ (i := 6) (N := some 125) (v := undef) (a' := ?_) #[true, true, true, true, true, true, true, false, false, false, false, false, false, false, false, false, false, false, false, false, false, false, false, false, false, false, false, false, false, false, false, false, false, false, false, false] rfl rfl (any_of HT_.out (by kernel_rfl)) (fun _ _ _ h => h) (Or.inr ⟨by rfl, rfl⟩) ?_ ?_
                  rotate_left
                  ·simp only [Act.put, List.setIfInBounds_toArray, List.set_cons_zero, List.set_cons_succ, i64_w, i32_w]
                   rfl
                  refine pure_ (i := 7) (N := some 126) (v := undef) (a' := ?_) #[true, true, true, true, true, true, true, true, false, false, false, false, false, false, false, false, false, false, false, false, false, false, false, false, false, false, false, false, false, false, false, false, false, false, false, false] rfl rfl (any_of HT_.out (by kernel_rfl)) (fun _ _ _ h => h) (Or.inr ⟨by rfl, rfl⟩) ?_ ?_
                  rotate_left
                  ·simp only [Act.put, List.setIfInBounds_toArray, List.set_cons_zero, List.set_cons_succ, i64_w, i32_w]
                   rfl
                  refine pure_ (i := 8) (N := some 127) (v := undef) (a' := ?_) #[true, true, true, true, true, true, true, true, true, false, false, false, false, false, false, false, false, false, false, false, false, false, false, false, false, false, false, false, false, false, false, false, false, false, false, false] rfl rfl (any_of HT_.out (by kernel_rfl)) (fun _ _ _ h => h) (Or.inr ⟨by rfl, rfl⟩) ?_ ?_
                  rotate_left
                  ·simp only [Act.put, List.setIfInBounds_toArray, List.set_cons_zero, List.set_cons_succ, i64_w, i32_w]
                   rfl
                  refine pure_ (i := 9) (N := some 128) (v := ?_) (a' := ?_) #[true, true, true, true, true, true, true, true, true, true, false, false, false, false, false, false, false, false, false, false, false, false, false, false, false, false, false, false, false, false, false, false, false, false, false, false] rfl rfl (any_of HT_.out (by kernel_rfl)) (fun _ _ _ h => h) (Or.inl ⟨by rfl, ?_⟩) ?_ ?_
                  rotate_left
                  ·intro w'
                   go_simp
                   with_reducible rfl
                  rotate_left
                  ·simp only [Act.put, List.setIfInBounds_toArray, List.set_cons_zero, List.set_cons_succ, i64_w, i32_w]
                   rfl
                  refine pure_ (i := 10) (N := some 129) (v := ?_) (a' := ?_) #[true, true, true, true, true, true, true, true, true, true, true, false, false, false, false, false, false, false, false, false, false, false, false, false, false, false, false, false, false, false, false, false, false, false, false, false] rfl rfl (any_of HT_.out (by kernel_rfl)) (fun _ _ _ h => h) (Or.inl ⟨by rfl, ?_⟩) ?_ ?_
                  rotate_left
                  ·intro w'
                   go_simp
                   with_reducible rfl
                  rotate_left
                  ·simp only [Act.put, List.setIfInBounds_toArray, List.set_cons_zero, List.set_cons_succ, i64_w, i32_w]
                   rfl
                  refine pure_ (i := 11) (N := some 130) (v := ?_) (a' := ?_) #[true, true, true, true, true, true, true, true, true, true, true, true, false, false, false, false, false, false, false, false, false, false, false, false, false, false, false, false, false, false, false, false, false, false, false, false] rfl rfl (any_of HT_.out (by kernel_rfl)) (fun _ _ _ h => h) (Or.inl ⟨by rfl, ?_⟩) ?_ ?_
                  rotate_left
                  ·intro w'
                   go_simp
                   with_reducible rfl
                  rotate_left
                  ·simp only [Act.put, List.setIfInBounds_toArray, List.set_cons_zero, List.set_cons_succ, i64_w, i32_w]
                   rfl
                  refine pure_ (i := 14) (N := some 133) (v := ?_) (a' := ?_) #[true, true, true, true, true, true, true, true, true, true, true, true, false, false, true, false, false, false, false, false, false, false, false, false, false, false, false, false, false, false, false, false, false, false, false, false] rfl rfl (any_of HT_.out (by kernel_rfl)) (fun _ _ _ h => h) (Or.inl ⟨by rfl, ?_⟩) ?_ ?_
                  rotate_left
                  ·intro w'
                   go_simp
                   with_reducible rfl
                  rotate_left
                  ·simp only [Act.put, List.setIfInBounds_toArray, List.set_cons_zero, List.set_cons_succ, i64_w, i32_w]
                   rfl
                  refine pure_ (i := 16) (N := some 135) (v := ?_) (a' := ?_) #[true, true, true, true, true, true, true, true, true, true, true, true, false, false, true, false, true, false, false, false, false, false, false, false, false, false, false, false, false, false, false, false, false, false, false, false] rfl rfl (any_of HT_.out (by kernel_rfl)) (fun _ _ _ h => h) (Or.inl ⟨by rfl, ?_⟩) ?_ ?_
                  rotate_left
                  ·intro w'
                   go_simp
                   with_reducible rfl
                  rotate_left
                  ·simp only [Act.put, List.setIfInBounds_toArray, List.set_cons_zero, List.set_cons_succ, i64_w, i32_w]
                   rfl
                  refine take_ (i := 12) (N := some 131) (v := ?_) (a' := ?_) #[true, true, true, true, true, true, true, true, true, true, true, true, true, false, true, false, true, false, false, false, false, false, false, false, false, false, false, false, false, false, false, false, false, false, false, false] rfl rfl (take_ofW HT_.out HW_.out (by kernel_rfl)) (fun _ _ _ h => h) (Or.inl ⟨by rfl, ?_⟩) hHeld ?_ ?_
                  rotate_left
                  ·rintro w' ⟨s0, s1, s2, s3⟩
                   go_simp
                   with_reducible rfl
                  rotate_left
                  ·simp only [Act.put, List.setIfInBounds_toArray, List.set_cons_zero, List.set_cons_succ, i64_w, i32_w]
                   rfl
                  refine take_ (i := 15) (N := some 134) (v := ?_) (a' := ?_) #[true, true, true, true, true, true, true, true, true, true, true, true, true, false, true, true, true, false, false, false, false, false, false, false, false, false, false, false, false, false, false, false, false, false, false, false] rfl rfl (take_ofW HT_.out HW_.out (by kernel_rfl)) (fun _ _ _ h => h) (Or.inl ⟨by rfl, ?_⟩) hHeld ?_ ?_
                  rotate_left
                  ·rintro w' ⟨s0, s1, s2, s3⟩
                   go_simp
                   with_reducible rfl
                  rotate_left
                  ·simp only [Act.put, List.setIfInBounds_toArray, List.set_cons_zero, List.set_cons_succ, i64_w, i32_w]
                   rfl
                  refine take_ (i := 17) (N := some 136) (v := ?_) (a' := ?_) #[true, true, true, true, true, true, true, true, true, true, true, true, true, false, true, true, true, true, false, false, false, false, false, false, false, false, false, false, false, false, false, false, false, false, false, false] rfl rfl (take_ofW HT_.out HW_.out (by kernel_rfl)) (fun _ _ _ h => h) (Or.inl ⟨by rfl, ?_⟩) hHeld ?_ ?_
                  rotate_left
                  ·rintro w' ⟨s0, s1, s2, s3⟩
                   go_simp
                   with_reducible rfl
                  rotate_left
                  ·simp only [Act.put, List.setIfInBounds_toArray, List.set_cons_zero, List.set_cons_succ, i64_w, i32_w]
                   rfl
                  refine take_ (i := 18) (N := some 137) (v := ?_) (a' := ?_) #[true, true, true, true, true, true, true, true, true, true, true, true, true, false, true, true, true, true, true, false, false, false, false, false, false, false, false, false, false, false, false, false, false, false, false, false] rfl rfl (take_ofW HT_.out HW_.out (by kernel_rfl)) (fun _ _ _ h => h) (Or.inl ⟨by rfl, ?_⟩) hHeld ?_ ?_
                  rotate_left
                  ·rintro w' ⟨s0, s1, s2, s3⟩
                   go_simp
                   with_reducible rfl
                  rotate_left
                  ·simp only [Act.put, List.setIfInBounds_toArray, List.set_cons_zero, List.set_cons_succ, i64_w, i32_w]
                   rfl
                  refine one_ (i := 13) (N := some 132) #[true, true, true, true, true, true, true, true, true, true, true, true, true, true, true, true, true, true, true, false, false, false, false, false, false, false, false, false, false, false, false, false, false, false, false, false] rfl rfl (one_of HT_.out (by kernel_rfl)) (by decide) (fun K hK => ?_)
                  refine goes_ Try.func21 (by kernel_rfl) rfl #[.agg #[.int .i64 a0_0, .string a0_1, .int .i64 a0_2, .string a0_3]] (by rfl) rfl rfl (by (try simp only [List.map_toArray, List.map_cons, List.map_nil]); first | done | rfl | (simp only [List.length_drop, List.length_take]; rfl)) ?_
                  with_reducible refine (kind_Outer.calls k2 a0_0 a0_1 a0_2 a0_3 t400 _ A43.out).mono ?_
                  rintro e w55 ⟨rfl, hb⟩
                  refine ⟨_, rfl, ?_⟩
                  have n0_ := Aside0.mk (Kd.R_below (pxr HO_106) hb)
                  have n1_ := pxk BK359 hb
                  have n2_ := pxs HB hb
                  clear HO_106
                  clear BK359
                  clear HB
                  have HO_106 := n0_
                  have BK359 := n1_
                  have HB := n2_
                  clear n0_ n1_ n2_
                  (try clear hb)
                  (try clear hb2)
                  (try clear hk)
                  (try clear hi)
                  refine hK.out _ _ ⟨(blk_cell BK359.out 0).trans rfl, (blk_cell BK359.out 1).trans rfl, (blk_cell BK359.out 2).trans rfl, (blk_cell BK359.out 3).trans rfl⟩ (fun hHeld => ?_)
                  clear hK K
                  refine norm_ (a' := ?_) ?_ ?_
                  rotate_left
                  ·show Act.put _ (some 132) _ = _
                   simp only [Act.put, List.setIfInBounds_toArray, List.set_cons_zero, List.set_cons_succ, i64_w, i32_w]
                   rfl
                  refine pure_ (i := 19) (N := some 138) (v := ?_) (a' := ?_) #[true, true, true, true, true, true, true, true, true, true, true, true, true, true, true, true, true, true, true, true, false, false, false, false, false, false, false, false, false, false, false, false, false, false, false, false] rfl rfl (any_of HT_.out (by kernel_rfl)) (fun _ _ _ h => h) (Or.inl ⟨by rfl, ?_⟩) ?_ ?_
                  rotate_left
                  ·intro w'
                   go_simp
                   with_reducible rfl
                  rotate_left
                  ·simp only [Act.put, List.setIfInBounds_toArray, List.set_cons_zero, List.set_cons_succ, i64_w, i32_w]
                   rfl
                  refine pure_ (i := 20) (N := some 139) (v := ?_) (a' := ?_) #[true, true, true, true, true, true, true, true, true, true, true, true, true, true, true, true, true, true, true, true, true, false, false, false, false, false, false, false, false, false, false, false, false, false, false, false] rfl rfl (any_of HT_.out (by kernel_rfl)) (fun _ _ _ h => h) (Or.inl ⟨by rfl, ?_⟩) ?_ ?_
                  rotate_left
                  ·intro w'
                   go_simp
                   with_reducible rfl
                  rotate_left
                  ·simp only [Act.put, List.setIfInBounds_toArray, List.set_cons_zero, List.set_cons_succ, i64_w, i32_w]
                   rfl
                  refine pure_ (i := 21) (N := some 140) (v := ?_) (a' := ?_) #[true, true, true, true, true, true, true, true, true, true, true, true, true, true, true, true, true, true, true, true, true, true, false, false, false, false, false, false, false, false, false, false, false, false, false, false] rfl rfl (any_of HT_.out (by kernel_rfl)) (fun _ _ _ h => h) (Or.inl ⟨by rfl, ?_⟩) ?_ ?_
                  rotate_left
                  ·intro w'
                   go_simp
                   with_reducible rfl
                  rotate_left
                  ·simp only [Act.put, List.setIfInBounds_toArray, List.set_cons_zero, List.set_cons_succ, i64_w, i32_w]
                   rfl
                  refine take_ (i := 22) (N := some 141) (v := ?_) (a' := ?_) #[true, true, true, true, true, true, true, true, true, true, true, true, true, true, true, true, true, true, true, true, true, true, true, false, false, false, false, false, false, false, false, false, false, false, false, false] rfl rfl (take_ofW HT_.out HW_.out (by kernel_rfl)) (fun _ _ _ h => h) (Or.inl ⟨by rfl, ?_⟩) hHeld ?_ ?_
                  rotate_left
                  ·rintro w' ⟨s0, s1, s2, s3⟩
                   go_simp
                   with_reducible rfl
                  rotate_left
                  ·simp only [Act.put, List.setIfInBounds_toArray, List.set_cons_zero, List.set_cons_succ, i64_w, i32_w]
                   rfl
                  refine take_ (i := 24) (N := some 143) (v := ?_) (a' := ?_) #[true, true, true, true, true, true, true, true, true, true, true, true, true, true, true, true, true, true, true, true, true, true, true, false, true, false, false, false, false, false, false, false, false, false, false, false] rfl rfl (take_ofW HT_.out HW_.out (by kernel_rfl)) (fun _ _ _ h => h) (Or.inl ⟨by rfl, ?_⟩) hHeld ?_ ?_
                  rotate_left
                  ·rintro w' ⟨s0, s1, s2, s3⟩
                   go_simp
                   with_reducible rfl
                  rotate_left
                  ·simp only [Act.put, List.setIfInBounds_toArray, List.set_cons_zero, List.set_cons_succ, i64_w, i32_w]
                   rfl
                  refine one_ (i := 23) (N := some 142) #[true, true, true, true, true, true, true, true, true, true, true, true, true, true, true, true, true, true, true, true, true, true, true, true, true, false, false, false, false, false, false, false, false, false, false, false] rfl rfl (one_of HT_.out (by kernel_rfl)) (by decide) (fun K hK => ?_)
                  refine goes_ Try.func29 (by kernel_rfl) rfl #[.agg #[.int .i64 a0_0, .string a0_1, .int .i64 a0_2, .string a0_3]] (by rfl) rfl rfl (by (try simp only [List.map_toArray, List.map_cons, List.map_nil]); first | done | rfl | (simp only [List.length_drop, List.length_take]; rfl)) ?_
                  with_reducible refine (kind_Show.calls k2 a0_0 a0_1 a0_2 a0_3 t401 _ A48.out).mono ?_
                  rintro e w56 ⟨rfl, hb⟩
                  refine ⟨_, rfl, ?_⟩
                  have n0_ := Aside0.mk (Kd.R_below (pxr HO_106) hb)
                  have n1_ := pxk BK359 hb
                  have n2_ := pxs HB hb
                  clear HO_106
                  clear BK359
                  clear HB
                  have HO_106 := n0_
                  have BK359 := n1_
                  have HB := n2_
                  clear n0_ n1_ n2_
                  (try clear hb)
                  (try clear hb2)
                  (try clear hk)
                  (try clear hi)
                  refine hK.out _ _ ⟨(blk_cell BK359.out 0).trans rfl, (blk_cell BK359.out 1).trans rfl, (blk_cell BK359.out 2).trans rfl, (blk_cell BK359.out 3).trans rfl⟩ (fun hHeld => ?_)
                  clear hK K
                  refine norm_ (a' := ?_) ?_ ?_
                  rotate_left
                  ·show Act.put _ (some 142) _ = _
                   simp only [Act.put, List.setIfInBounds_toArray, List.set_cons_zero, List.set_cons_succ, i64_w, i32_w]
                   rfl
                  refine one_ (i := 25) (N := some 144) #[true, true, true, true, true, true, true, true, true, true, true, true, true, true, true, true, true, true, true, true, true, true, true, true, true, true, false, false, false, false, false, false, false, false, false, false] rfl rfl (one_of HT_.out (by kernel_rfl)) (by decide) (fun K hK => ?_)
                  refine goes_ Try.func30 (by kernel_rfl) rfl #[.agg #[.int .i64 a0_0, .string a0_1, .int .i64 a0_2, .string a0_3]] (by rfl) rfl rfl (by (try simp only [List.map_toArray, List.map_cons, List.map_nil]); first | done | rfl | (simp only [List.length_drop, List.length_take]; rfl)) ?_
                  with_reducible refine (caulkerref07_Type.calls k2 a0_0 a0_1 a0_2 a0_3 t402 _ A49.out).mono ?_
                  rintro e w57 ⟨rfl, hb⟩
                  refine ⟨_, rfl, ?_⟩
                  have n0_ := Aside0.mk (Kd.R_below (pxr HO_106) hb)
                  have n1_ := pxk BK359 hb
                  have n2_ := pxs HB hb
                  clear HO_106
                  clear BK359
                  clear HB
                  have HO_106 := n0_
                  have BK359 := n1_
                  have HB := n2_
                  clear n0_ n1_ n2_
                  (try clear hb)
                  (try clear hb2)
                  (try clear hk)
                  (try clear hi)
                  refine hK.out _ _ ⟨(blk_cell BK359.out 0).trans rfl, (blk_cell BK359.out 1).trans rfl, (blk_cell BK359.out 2).trans rfl, (blk_cell BK359.out 3).trans rfl⟩ (fun hHeld => ?_)
                  clear hK K
                  refine norm_ (a' := ?_) ?_ ?_
                  rotate_left
                  ·show Act.put _ (some 144) _ = _
                   simp only [Act.put, List.setIfInBounds_toArray, List.set_cons_zero, List.set_cons_succ, i64_w, i32_w]
                   rfl
                  refine pure_ (i := 26) (N := some 145) (v := ?_) (a' := ?_) #[true, true, true, true, true, true, true, true, true, true, true, true, true, true, true, true, true, true, true, true, true, true, true, true, true, true, true, false, false, false, false, false, false, false, false, false] rfl rfl (any_of HT_.out (by kernel_rfl)) (fun _ _ _ h => h) (Or.inl ⟨by rfl, ?_⟩) ?_ ?_
                  rotate_left
                  ·intro w'
                   go_simp
                   with_reducible rfl
                  rotate_left
                  ·simp only [Act.put, List.setIfInBounds_toArray, List.set_cons_zero, List.set_cons_succ, i64_w, i32_w]
                   rfl
                  refine pure_ (i := 27) (N := some 146) (v := ?_) (a' := ?_) #[true, true, true, true, true, true, true, true, true, true, true, true, true, true, true, true, true, true, true, true, true, true, true, true, true, true, true, true, false, false, false, false, false, false, false, false] rfl rfl (any_of HT_.out (by kernel_rfl)) (fun _ _ _ h => h) (Or.inl ⟨by rfl, ?_⟩) ?_ ?_
                  rotate_left
                  ·intro w'
                   go_simp
                   with_reducible rfl
                  rotate_left
                  ·simp only [Act.put, List.setIfInBounds_toArray, List.set_cons_zero, List.set_cons_succ, i64_w, i32_w]
                   rfl
                  refine pure_ (i := 28) (N := some 147) (v := ?_) (a' := ?_) #[true, true, true, true, true, true, true, true, true, true, true, true, true, true, true, true, true, true, true, true, true, true, true, true, true, true, true, true, true, false, false, false, false, false, false, false] rfl rfl (any_of HT_.out (by kernel_rfl)) (fun _ _ _ h => h) (Or.inl ⟨by rfl, ?_⟩) ?_ ?_
                  rotate_left
                  ·intro w'
                   go_simp
                   with_reducible rfl
                  rotate_left
                  ·simp only [Act.put, List.setIfInBounds_toArray, List.set_cons_zero, List.set_cons_succ, i64_w, i32_w]
                   rfl
                  refine take_ (i := 29) (N := some 148) (v := ?_) (a' := ?_) #[true, true, true, true, true, true, true, true, true, true, true, true, true, true, true, true, true, true, true, true, true, true, true, true, true, true, true, true, true, true, false, false, false, false, false, false] rfl rfl (take_ofW HT_.out HW_.out (by kernel_rfl)) (fun _ _ _ h => h) (Or.inl ⟨by rfl, ?_⟩) hHeld ?_ ?_
                  rotate_left
                  ·rintro w' ⟨s0, s1, s2, s3⟩
                   go_simp
                   with_reducible rfl
                  rotate_left
                  ·simp only [Act.put, List.setIfInBounds_toArray, List.set_cons_zero, List.set_cons_succ, i64_w, i32_w]
                   rfl
                  refine take_ (i := 31) (N := some 150) (v := ?_) (a' := ?_) #[true, true, true, true, true, true, true, true, true, true, true, true, true, true, true, true, true, true, true, true, true, true, true, true, true, true, true, true, true, true, false, true, false, false, false, false] rfl rfl (take_ofW HT_.out HW_.out (by kernel_rfl)) (fun _ _ _ h => h) (Or.inl ⟨by rfl, ?_⟩) hHeld ?_ ?_
                  rotate_left
                  ·rintro w' ⟨s0, s1, s2, s3⟩
                   go_simp
                   with_reducible rfl
                  rotate_left
                  ·simp only [Act.put, List.setIfInBounds_toArray, List.set_cons_zero, List.set_cons_succ, i64_w, i32_w]
                   rfl
                  refine one_ (i := 30) (N := some 149) #[true, true, true, true, true, true, true, true, true, true, true, true, true, true, true, true, true, true, true, true, true, true, true, true, true, true, true, true, true, true, true, true, false, false, false, false] rfl rfl (one_of HT_.out (by kernel_rfl)) (by decide) (fun K hK => ?_)
                  refine goes_ Try.func22 (by kernel_rfl) rfl #[.agg #[.int .i64 a0_0, .string a0_1, .int .i64 a0_2, .string a0_3]] (by rfl) rfl rfl (by (try simp only [List.map_toArray, List.map_cons, List.map_nil]); first | done | rfl | (simp only [List.length_drop, List.length_take]; rfl)) ?_
                  with_reducible refine (kind_Bare.calls k2 a0_0 a0_1 a0_2 a0_3 t403 t404 t405 t406 _ A51.out).mono ?_
                  rintro e w58 ⟨rfl, hb⟩
                  refine ⟨_, rfl, ?_⟩
                  have n0_ := Aside0.mk (Kd.R_below (pxr HO_106) hb)
                  have n1_ := pxk BK359 hb
                  have n2_ := pxs HB hb
                  clear HO_106
                  clear BK359
                  clear HB
                  have HO_106 := n0_
                  have BK359 := n1_
                  have HB := n2_
                  clear n0_ n1_ n2_
                  (try clear hb)
                  (try clear hb2)
                  (try clear hk)
                  (try clear hi)
                  refine hK.out _ _ ⟨(blk_cell BK359.out 0).trans rfl, (blk_cell BK359.out 1).trans rfl, (blk_cell BK359.out 2).trans rfl, (blk_cell BK359.out 3).trans rfl⟩ (fun hHeld => ?_)
                  clear hK K
                  refine norm_ (a' := ?_) ?_ ?_
                  rotate_left
                  ·show Act.put _ (some 149) _ = _
                   simp only [Act.put, List.setIfInBounds_toArray, List.set_cons_zero, List.set_cons_succ, i64_w, i32_w]
                   rfl
                  refine one_ (i := 32) (N := some 151) #[true, true, true, true, true, true, true, true, true, true, true, true, true, true, true, true, true, true, true, true, true, true, true, true, true, true, true, true, true, true, true, true, true, false, false, false] rfl rfl (one_of HT_.out (by kernel_rfl)) (by decide) (fun K hK => ?_)
                  refine goes_ Try.func31 (by kernel_rfl) rfl #[.agg #[.int .i64 a0_0, .string a0_1, .int .i64 a0_2, .string a0_3]] (by rfl) rfl rfl (by (try simp only [List.map_toArray, List.map_cons, List.map_nil]); first | done | rfl | (simp only [List.length_drop, List.length_take]; rfl)) ?_
                  with_reducible refine (caulkerref07_Bare.calls a0_0 a0_1 a0_2 a0_3 t407 t408 t409 t410 _ A52.out).mono ?_
                  rintro e w59 ⟨rfl, hb⟩
                  refine ⟨_, rfl, ?_⟩
                  have n0_ := Aside0.mk (Kd.R_below (pxr HO_106) hb)
                  have n1_ := pxk BK359 hb
                  have n2_ := pxs HB hb
                  clear HO_106
                  clear BK359
                  clear HB
                  have HO_106 := n0_
                  have BK359 := n1_
                  have HB := n2_
                  clear n0_ n1_ n2_
                  (try clear hb)
                  (try clear hb2)
                  (try clear hk)
                  (try clear hi)
                  refine hK.out _ _ ⟨(blk_cell BK359.out 0).trans rfl, (blk_cell BK359.out 1).trans rfl, (blk_cell BK359.out 2).trans rfl, (blk_cell BK359.out 3).trans rfl⟩ (fun hHeld => ?_)
                  clear hK K
                  refine norm_ (a' := ?_) ?_ ?_
                  rotate_left
                  ·show Act.put _ (some 151) _ = _
                   simp only [Act.put, List.setIfInBounds_toArray, List.set_cons_zero, List.set_cons_succ, i64_w, i32_w]
                   rfl
                  refine pure_ (i := 33) (N := some 152) (v := ?_) (a' := ?_) #[true, true, true, true, true, true, true, true, true, true, true, true, true, true, true, true, true, true, true, true, true, true, true, true, true, true, true, true, true, true, true, true, true, true, false, false] rfl rfl (any_of HT_.out (by kernel_rfl)) (fun _ _ _ h => h) (Or.inl ⟨by rfl, ?_⟩) ?_ ?_
                  rotate_left
                  ·intro w'
                   go_simp
                   with_reducible rfl
                  rotate_left
                  ·simp only [Act.put, List.setIfInBounds_toArray, List.set_cons_zero, List.set_cons_succ, i64_w, i32_w]
                   rfl
                  refine pure_ (i := 34) (N := some 153) (v := ?_) (a' := ?_) #[true, true, true, true, true, true, true, true, true, true, true, true, true, true, true, true, true, true, true, true, true, true, true, true, true, true, true, true, true, true, true, true, true, true, true, false] rfl rfl (any_of HT_.out (by kernel_rfl)) (fun _ _ _ h => h) (Or.inl ⟨by rfl, ?_⟩) ?_ ?_
                  rotate_left
                  ·intro w'
                   go_simp
                   with_reducible rfl
                  rotate_left
                  ·simp only [Act.put, List.setIfInBounds_toArray, List.set_cons_zero, List.set_cons_succ, i64_w, i32_w]
                   rfl
                  refine pure_ (i := 35) (N := some 2) (v := ?_) (a' := ?_) #[true, true, true, true, true, true, true, true, true, true, true, true, true, true, true, true, true, true, true, true, true, true, true, true, true, true, true, true, true, true, true, true, true, true, true, true] rfl rfl (any_of HT_.out (by kernel_rfl)) (fun _ _ _ h => h) (Or.inl ⟨by rfl, ?_⟩) ?_ ?_
                  rotate_left
                  ·intro w'
                   go_simp
                   with_reducible rfl
                  rotate_left
                  ·simp only [Act.put, List.setIfInBounds_toArray, List.set_cons_zero, List.set_cons_succ, i64_w, i32_w]
                   rfl
                  refine done_ (done_of HT_.out (by kernel_rfl)) ?_
                  try go_wp2
                  go_ret
                  exact ⟨by first | rfl | (simp [errW_none, errW_some] <;> rfl) | (simp [*, errW_none, errW_some] <;> rfl) | (simp [*, pxbeq, pxbne, errW_none, errW_some]; done), pxb HB⟩
                 ·rw [if_neg c50] at H
                  exact absurd H (by simp)
                ·rw [if_neg c47] at H
                 exact absurd H (by simp)
               ·rw [if_neg c45] at H
                exact absurd H (by simp)
              ·rw [if_neg c44] at H
               exact absurd H (by simp)
             ·rw [if_neg c42] at H
              exact absurd H (by simp)
            ·rw [if_neg c41] at H
             have c41b0 : decide (0 < a0_2) = false := decide_eq_false c41
             clear c41
             by_cases c60 : (t399 == (a0_0 == 5)) = true
             ·rw [if_pos c60] at H
              have c60b0 : (t399 == (a0_0 == 5)) = true := c60
              (try (have c60b1 : decide (t399 = (a0_0 == 5)) = true := by simpa using c60))
              (try (have c60b2 : (t399 == (a0_0 == 5)) = true := by simpa using c60))
              clear c60
              replace H := Option.bind_eq_some_iff.mp H
              obtain ⟨t411, A610, H⟩ := H
              replace H : (if 0 ≤ a0_2 then (if a0_2 < (a0_3.size : Int) then (if t411 = (bt a0_3 a0_2) then ((kind_Show.f k2 a0_0 a0_1 a0_2 a0_3).bind fun t412 => ((caulkerref07_Type.f k2 a0_0 a0_1 a0_2 a0_3).bind fun t413 => (if t412.toList = t413.toList then ((kind_Bare.f k2 a0_0 a0_1 a0_2 a0_3).bind fun bt414 => ((caulkerref07_Bare.f a0_0 a0_1 a0_2 a0_3).bind fun bt418 => (some (bt414.1 == bt418.1 && (bt414.2.1.toList == bt418.2.1.toList && (bt414.2.2.1 == bt418.2.2.1 && (bt414.2.2.2.toList == bt418.2.2.2.toList))))))) else (none)))) else (none)) else (none)) else (none)) = some r := H
              have A61 := Aside0.mk A610
              clear A610
              by_cases c62 : 0 ≤ a0_2
              ·rw [if_pos c62] at H
               have c62b0 : decide (0 ≤ a0_2) = true := decide_eq_true c62
               clear c62
               by_cases c63 : a0_2 < (a0_3.size : Int)
               ·rw [if_pos c63] at H
                have c63b0 : decide (a0_2 < (a0_3.size : Int)) = true := decide_eq_true c63
                clear c63
                by_cases c65 : t411 = (bt a0_3 a0_2)
                ·rw [if_pos c65] at H
                 have c65b0 : (t411 == (bt a0_3 a0_2)) = true := beq_iff_eq.mpr c65
                 have c65b1 : (t411 != (bt a0_3 a0_2)) = false := bne_eq_false_iff_eq.mpr c65
                 clear c65
                 replace H := Option.bind_eq_some_iff.mp H
                 obtain ⟨t412, A660, H⟩ := H
                 replace H : ((caulkerref07_Type.f k2 a0_0 a0_1 a0_2 a0_3).bind fun t413 => (if t412.toList = t413.toList then ((kind_Bare.f k2 a0_0 a0_1 a0_2 a0_3).bind fun bt414 => ((caulkerref07_Bare.f a0_0 a0_1 a0_2 a0_3).bind fun bt418 => (some (bt414.1 == bt418.1 && (bt414.2.1.toList == bt418.2.1.toList && (bt414.2.2.1 == bt418.2.2.1 && (bt414.2.2.2.toList == bt418.2.2.2.toList))))))) else (none))) = some r := H
                 have A66 := Aside0.mk A660
                 clear A660
                 replace H := Option.bind_eq_some_iff.mp H
                 obtain ⟨t413, A670, H⟩ := H
                 replace H : (if t412.toList = t413.toList then ((kind_Bare.f k2 a0_0 a0_1 a0_2 a0_3).bind fun bt414 => ((caulkerref07_Bare.f a0_0 a0_1 a0_2 a0_3).bind fun bt418 => (some (bt414.1 == bt418.1 && (bt414.2.1.toList == bt418.2.1.toList && (bt414.2.2.1 == bt418.2.2.1 && (bt414.2.2.2.toList == bt418.2.2.2.toList))))))) else (none)) = some r := H
                 have A67 := Aside0.mk A670
                 clear A670
                 by_cases c68 : t412.toList = t413.toList
                 ·rw [if_pos c68] at H
                  have c68b0 : (t412.toList == t413.toList) = true := beq_iff_eq.mpr c68
                  have c68b1 : (t412.toList != t413.toList) = false := bne_eq_false_iff_eq.mpr c68
                  clear c68
                  replace H := Option.bind_eq_some_iff.mp H
                  obtain ⟨⟨t414, t415, t416, t417⟩, A690, H⟩ := H
                  replace H : ((caulkerref07_Bare.f a0_0 a0_1 a0_2 a0_3).bind fun bt418 => (some (t414 == bt418.1 && (t415.toList == bt418.2.1.toList && (t416 == bt418.2.2.1 && (t417.toList == bt418.2.2.2.toList)))))) = some r := H
                  have A69 := Aside0.mk A690
                  clear A690
                  replace H := Option.bind_eq_some_iff.mp H
                  obtain ⟨⟨t418, t419, t420, t421⟩, A700, H⟩ := H
                  replace H : (some (t414 == t418 && (t415.toList == t419.toList && (t416 == t420 && (t417.toList == t421.toList))))) = some r := H
                  have A70 := Aside0.mk A700
                  clear A700
                  obtain rfl := Option.some.inj H
                  try go_wp2
                  have n0_ := Aside0.mk (Kd.R_drew HO_106.out)
                  have n1_ := Aside0.mk (blk_drew BK359.out)
                  have n2_ := Aside0.mk (below_drew1 HB.out)
                  clear HO_106
                  clear BK359
                  clear HB
                  have HO_106 := n0_
                  have BK359 := n1_
                  have HB := n2_
                  clear n0_ n1_ n2_
                  have p64 : 0 ≤ (a0_2 : Int) := pxd
                  have q64 : a0_2 < (a0_3.size : Int) := pxd
                  have hx64 := bt_at a0_3 a0_2
                  replace p64 := eq_true p64
                  replace q64 := eq_true q64
                  refine start_ (n := 36) (S := fun w' => w'.cell? ⟨gb359, 0, none⟩ = some (.int .i64 a0_0) ∧ w'.cell? ⟨gb359, 1, none⟩ = some (.string a0_1) ∧ w'.cell? ⟨gb359, 2, none⟩ = some (.int .i64 a0_2) ∧ w'.cell? ⟨gb359, 3, none⟩ = some (.string a0_3)) (ds := []) #[false, false, false, false, false, false, false, false, false, false, false, false, false, false, false, false, false, false, false, false, false, false, false, false, false, false, false, false, false, false, false, false, false, false, false, false] (by kernel_rfl) rfl rfl ⟨(blk_cell BK359.out 0).trans rfl, (blk_cell BK359.out 1).trans rfl, (blk_cell BK359.out 2).trans rfl, (blk_cell BK359.out 3).trans rfl⟩ (fun hHeld => ?_); refine with_tabW caulkerlaw10_KindTells.tab23 caulkerlaw10_KindTells.bits23 (fun HT_ HW_ => ?_)
                  generalize wr.drew = w71 at HO_106 BK359 HB hHeld ⊢
                  refine pure_ (i := 2) (N := some 121) (v := ?_) (a' := ?_) #[false, false, true, false, false, false, false, false, false, false, false, false, false, false, false, false, false, false, false, false, false, false, false, false, false, false, false, false, false, false, false, false, false, false, false, false] rfl rfl (any_of HT_.out (by kernel_rfl)) (fun _ _ _ h => h) (Or.inl ⟨by rfl, ?_⟩) ?_ ?_
                  rotate_left
                  ·intro w'
                   go_simp
                   with_reducible rfl
                  rotate_left
                  ·simp only [Act.put, List.setIfInBounds_toArray, List.set_cons_zero, List.set_cons_succ, i64_w, i32_w]
                   rfl
                  refine take_ (i := 0) (N := some 119) (v := ?_) (a' := ?_) #[true, false, true, false, false, false, false, false, false, false, false, false, false, false, false, false, false, false, false, false, false, false, false, false, false, false, false, false, false, false, false, false, false, false, false, false] rfl rfl (take_ofW HT_.out HW_.out (by kernel_rfl)) (fun _ _ _ h => h) (Or.inl ⟨by rfl, ?_⟩) hHeld ?_ ?_
                  rotate_left
                  ·rintro w' ⟨s0, s1, s2, s3⟩
                   go_simp
                   with_reducible rfl
                  rotate_left
                  ·simp only [Act.put, List.setIfInBounds_toArray, List.set_cons_zero, List.set_cons_succ, i64_w, i32_w]
                   rfl
                  refine take_ (i := 3) (N := some 122) (v := ?_) (a' := ?_) #[true, false, true, true, false, false, false, false, false, false, false, false, false, false, false, false, false, false, false, false, false, false, false, false, false, false, false, false, false, false, false, false, false, false, false, false] rfl rfl (take_ofW HT_.out HW_.out (by kernel_rfl)) (fun _ _ _ h => h) (Or.inl ⟨by rfl, ?_⟩) hHeld ?_ ?_
                  rotate_left
                  ·rintro w' ⟨s0, s1, s2, s3⟩
                   go_simp
                   with_reducible rfl
                  rotate_left
                  ·simp only [Act.put, List.setIfInBounds_toArray, List.set_cons_zero, List.set_cons_succ, i64_w, i32_w]
                   rfl
                  refine pure_ (i := 4) (N := some 123) (v := ?_) (a' := ?_) #[true, false, true, true, true, false, false, false, false, false, false, false, false, false, false, false, false, false, false, false, false, false, false, false, false, false, false, false, false, false, false, false, false, false, false, false] rfl rfl (any_of HT_.out (by kernel_rfl)) (fun _ _ _ h => h) (Or.inl ⟨by rfl, ?_⟩) ?_ ?_
                  rotate_left
                  ·intro w'
                   go_simp
                   with_reducible rfl
                  rotate_left
                  ·simp only [Act.put, List.setIfInBounds_toArray, List.set_cons_zero, List.set_cons_succ, i64_w, i32_w]
                   rfl
                  refine one_ (i := 1) (N := some 120) #[true, true, true, true, true, false, false, false, false, false, false, false, false, false, false, false, false, false, false, false, false, false, false, false, false, false, false, false, false, false, false, false, false, false, false, false] rfl rfl (one_of HT_.out (by kernel_rfl)) (by decide) (fun K hK => ?_)
                  refine goes_ Try.func27 (by kernel_rfl) rfl #[.agg #[.int .i64 a0_0, .string a0_1, .int .i64 a0_2, .string a0_3]] (by rfl) rfl rfl (by (try simp only [List.map_toArray, List.map_cons, List.map_nil]); first | done | rfl | (simp only [List.length_drop, List.length_take]; rfl)) ?_
                  with_reducible refine (kind_Ref.calls k2 a0_0 a0_1 a0_2 a0_3 t399 _ A40.out).mono ?_
                  rintro e w72 ⟨rfl, hb⟩
                  refine ⟨_, rfl, ?_⟩
                  have n0_ := Aside0.mk (Kd.R_below (pxr HO_106) hb)
                  have n1_ := pxk BK359 hb
                  have n2_ := pxs HB hb
                  clear HO_106
                  clear BK359
                  clear HB
                  have HO_106 := n0_
                  have BK359 := n1_
                  have HB := n2_
                  clear n0_ n1_ n2_
                  (try clear hb)
                  (try clear hb2)
                  (try clear hk)
                  (try clear hi)
                  refine hK.out _ _ ⟨(blk_cell BK359.out 0).trans rfl, (blk_cell BK359.out 1).trans rfl, (blk_cell BK359.out 2).trans rfl, (blk_cell BK359.out 3).trans rfl⟩ (fun hHeld => ?_)
                  clear hK K
                  refine norm_ (a' := ?_) ?_ ?_
                  rotate_left
                  ·show Act.put _ (some 120) _ = _
                   simp only [Act.put, List.setIfInBounds_toArray, List.set_cons_zero, List.set_cons_succ, i64_w, i32_w]
                   rfl
                  refine pure_ (i := 5) (N := some 124) (v := ?_) (a' := ?_) #[true, true, true, true, true, true, false, false, false, false, false, false, false, false, false, false, false, false, false, false, false, false, false, false, false, false, false, false, false, false, false, false, false, false, false, false] rfl rfl (any_of HT_.out (by kernel_rfl)) (fun _ _ _ h => h) (Or.inl ⟨by rfl, ?_⟩) ?_ ?_
                  rotate_left
                  ·intro w'
                   go_simp
                   with_reducible rfl
                  rotate_left
                  ·simp only [Act.put, List.setIfInBounds_toArray, List.set_cons_zero, List.set_cons_succ, i64_w, i32_w]
                   rfl
                  refine pure_ (i := 6) (N := some 125) (v := ?_) (a' := ?_) #[true, true, true, true, true, true, true, false, false, false, false, false, false, false, false, false, false, false, false, false, false, false, false, false, false, false, false, false, false, false, false, false, false, false, false, false] rfl rfl (any_of HT_.out (by kernel_rfl)) (fun _ _ _ h => h) (Or.inl ⟨by rfl, ?_⟩) ?_ ?_
                  rotate_left
                  ·intro w'
                   go_simp
                   with_reducible rfl
                  rotate_left
                  ·simp only [Act.put, List.setIfInBounds_toArray, List.set_cons_zero, List.set_cons_succ, i64_w, i32_w]
                   rfl
                  refine take_ (i := 7) (N := some 126) (v := ?_) (a' := ?_) #[true, true, true, true, true, true, true, true, false, false, false, false, false, false, false, false, false, false, false, false, false, false, false, false, false, false, false, false, false, false, false, false, false, false, false, false] rfl rfl (take_ofW HT_.out HW_.out (by kernel_rfl)) (fun _ _ _ h => h) (Or.inl ⟨by rfl, ?_⟩) hHeld ?_ ?_
                  rotate_left
                  ·rintro w' ⟨s0, s1, s2, s3⟩
                   go_simp
                   with_reducible rfl
                  rotate_left
                  ·simp only [Act.put, List.setIfInBounds_toArray, List.set_cons_zero, List.set_cons_succ, i64_w, i32_w]
                   rfl
                  refine pure_ (i := 8) (N := some 127) (v := ?_) (a' := ?_) #[true, true, true, true, true, true, true, true, true, false, false, false, false, false, false, false, false, false, false, false, false, false, false, false, false, false, false, false, false, false, false, false, false, false, false, false] rfl rfl (any_of HT_.out (by kernel_rfl)) (fun _ _ _ h => h) (Or.inl ⟨by rfl, ?_⟩) ?_ ?_
                  rotate_left
                  ·intro w'
                   go_simp
                   with_reducible rfl
                  rotate_left
                  ·simp only [Act.put, List.setIfInBounds_toArray, List.set_cons_zero, List.set_cons_succ, i64_w, i32_w]
                   rfl
                  refine pure_ (i := 9) (N := some 128) (v := ?_) (a' := ?_) #[true, true, true, true, true, true, true, true, true, true, false, false, false, false, false, false, false, false, false, false, false, false, false, false, false, false, false, false, false, false, false, false, false, false, false, false] rfl rfl (any_of HT_.out (by kernel_rfl)) (fun _ _ _ h => h) (Or.inl ⟨by rfl, ?_⟩) ?_ ?_
                  rotate_left
                  ·intro w'
                   go_simp
                   with_reducible rfl
                  rotate_left
                  ·simp only [Act.put, List.setIfInBounds_toArray, List.set_cons_zero, List.set_cons_succ, i64_w, i32_w]
                   rfl
                  refine pure_ (i := 10) (N := some 129) (v := ?_) (a' := ?_) #[true, true, true, true, true, true, true, true, true, true, true, false, false, false, false, false, false, false, false, false, false, false, false, false, false, false, false, false, false, false, false, false, false, false, false, false] rfl rfl (any_of HT_.out (by kernel_rfl)) (fun _ _ _ h => h) (Or.inl ⟨by rfl, ?_⟩) ?_ ?_
                  rotate_left
                  ·intro w'
                   go_simp
                   with_reducible rfl
                  rotate_left
                  ·simp only [Act.put, List.setIfInBounds_toArray, List.set_cons_zero, List.set_cons_succ, i64_w, i32_w]
                   rfl
                  refine pure_ (i := 11) (N := some 130) (v := ?_) (a' := ?_) #[true, true, true, true, true, true, true, true, true, true, true, true, false, false, false, false, false, false, false, false, false, false, false, false, false, false, false, false, false, false, false, false, false, false, false, false] rfl rfl (any_of HT_.out (by kernel_rfl)) (fun _ _ _ h => h) (Or.inl ⟨by rfl, ?_⟩) ?_ ?_
                  rotate_left
                  ·intro w'
                   go_simp
                   with_reducible rfl
                  rotate_left
                  ·simp only [Act.put, List.setIfInBounds_toArray, List.set_cons_zero, List.set_cons_succ, i64_w, i32_w]
                   rfl
                  refine pure_ (i := 14) (N := some 133) (v := ?_) (a' := ?_) #[true, true, true, true, true, true, true, true, true, true, true, true, false, false, true, false, false, false, false, false, false, false, false, false, false, false, false, false, false, false, false, false, false, false, false, false] rfl rfl (any_of HT_.out (by kernel_rfl)) (fun _ _ _ h => h) (Or.inl ⟨by rfl, ?_⟩) ?_ ?_
                  rotate_left
                  ·intro w'
                   go_simp
                   with_reducible rfl
                  rotate_left
                  ·simp only [Act.put, List.setIfInBounds_toArray, List.set_cons_zero, List.set_cons_succ, i64_w, i32_w]
                   rfl
                  refine pure_ (i := 16) (N := some 135) (v := ?_) (a' := ?_) #[true, true, true, true, true, true, true, true, true, true, true, true, false, false, true, false, true, false, false, false, false, false, false, false, false, false, false, false, false, false, false, false, false, false, false, false] rfl rfl (any_of HT_.out (by kernel_rfl)) (fun _ _ _ h => h) (Or.inl ⟨by rfl, ?_⟩) ?_ ?_
                  rotate_left
                  ·intro w'
                   go_simp
                   with_reducible rfl
                  rotate_left
                  ·simp only [Act.put, List.setIfInBounds_toArray, List.set_cons_zero, List.set_cons_succ, i64_w, i32_w]
                   rfl
                  refine take_ (i := 12) (N := some 131) (v := ?_) (a' := ?_) #[true, true, true, true, true, true, true, true, true, true, true, true, true, false, true, false, true, false, false, false, false, false, false, false, false, false, false, false, false, false, false, false, false, false, false, false] rfl rfl (take_ofW HT_.out HW_.out (by kernel_rfl)) (fun _ _ _ h => h) (Or.inl ⟨by rfl, ?_⟩) hHeld ?_ ?_
                  rotate_left
                  ·rintro w' ⟨s0, s1, s2, s3⟩
                   go_simp
                   with_reducible rfl
                  rotate_left
                  ·simp only [Act.put, List.setIfInBounds_toArray, List.set_cons_zero, List.set_cons_succ, i64_w, i32_w]
                   rfl
                  refine take_ (i := 15) (N := some 134) (v := ?_) (a' := ?_) #[true, true, true, true, true, true, true, true, true, true, true, true, true, false, true, true, true, false, false, false, false, false, false, false, false, false, false, false, false, false, false, false, false, false, false, false] rfl rfl (take_ofW HT_.out HW_.out (by kernel_rfl)) (fun _ _ _ h => h) (Or.inl ⟨by rfl, ?_⟩) hHeld ?_ ?_
                  rotate_left
                  ·rintro w' ⟨s0, s1, s2, s3⟩
                   go_simp
                   with_reducible rfl
                  rotate_left
                  ·simp only [Act.put, List.setIfInBounds_toArray, List.set_cons_zero, List.set_cons_succ, i64_w, i32_w]
                   rfl
                  refine take_ (i := 17) (N := some 136) (v := ?_) (a' := ?_) #[true, true, true, true, true, true, true, true, true, true, true, true, true, false, true, true, true, true, false, false, false, false, false, false, false, false, false, false, false, false, false, false, false, false, false, false] rfl rfl (take_ofW HT_.out HW_.out (by kernel_rfl)) (fun _ _ _ h => h) (Or.inl ⟨by rfl, ?_⟩) hHeld ?_ ?_
                  rotate_left
                  ·rintro w' ⟨s0, s1, s2, s3⟩
                   go_simp
                   with_reducible rfl
                  rotate_left
                  ·simp only [Act.put, List.setIfInBounds_toArray, List.set_cons_zero, List.set_cons_succ, i64_w, i32_w]
                   rfl
                  refine take_ (i := 18) (N := some 137) (v := ?_) (a' := ?_) #[true, true, true, true, true, true, true, true, true, true, true, true, true, false, true, true, true, true, true, false, false, false, false, false, false, false, false, false, false, false, false, false, false, false, false, false] rfl rfl (take_ofW HT_.out HW_.out (by kernel_rfl)) (fun _ _ _ h => h) (Or.inl ⟨by rfl, ?_⟩) hHeld ?_ ?_
                  rotate_left
                  ·rintro w' ⟨s0, s1, s2, s3⟩
                   go_simp
                   with_reducible rfl
                  rotate_left
                  ·simp only [Act.put, List.setIfInBounds_toArray, List.set_cons_zero, List.set_cons_succ, i64_w, i32_w]
                   rfl
                  refine one_ (i := 13) (N := some 132) #[true, true, true, true, true, true, true, true, true, true, true, true, true, true, true, true, true, true, true, false, false, false, false, false, false, false, false, false, false, false, false, false, false, false, false, false] rfl rfl (one_of HT_.out (by kernel_rfl)) (by decide) (fun K hK => ?_)
                  refine goes_ Try.func21 (by kernel_rfl) rfl #[.agg #[.int .i64 a0_0, .string a0_1, .int .i64 a0_2, .string a0_3]] (by rfl) rfl rfl (by (try simp only [List.map_toArray, List.map_cons, List.map_nil]); first | done | rfl | (simp only [List.length_drop, List.length_take]; rfl)) ?_
                  with_reducible refine (kind_Outer.calls k2 a0_0 a0_1 a0_2 a0_3 t411 _ A61.out).mono ?_
                  rintro e w73 ⟨rfl, hb⟩
                  refine ⟨_, rfl, ?_⟩
                  have n0_ := Aside0.mk (Kd.R_below (pxr HO_106) hb)
                  have n1_ := pxk BK359 hb
                  have n2_ := pxs HB hb
                  clear HO_106
                  clear BK359
                  clear HB
                  have HO_106 := n0_
                  have BK359 := n1_
                  have HB := n2_
                  clear n0_ n1_ n2_
                  (try clear hb)
                  (try clear hb2)
                  (try clear hk)
                  (try clear hi)
                  refine hK.out _ _ ⟨(blk_cell BK359.out 0).trans rfl, (blk_cell BK359.out 1).trans rfl, (blk_cell BK359.out 2).trans rfl, (blk_cell BK359.out 3).trans rfl⟩ (fun hHeld => ?_)
                  clear hK K
                  refine norm_ (a' := ?_) ?_ ?_
                  rotate_left
                  ·show Act.put _ (some 132) _ = _
                   simp only [Act.put, List.setIfInBounds_toArray, List.set_cons_zero, List.set_cons_succ, i64_w, i32_w]
                   rfl
                  refine pure_ (i := 19) (N := some 138) (v := ?_) (a' := ?_) #[true, true, true, true, true, true, true, true, true, true, true, true, true, true, true, true, true, true, true, true, false, false, false, false, false, false, false, false, false, false, false, false, false, false, false, false] rfl rfl (any_of HT_.out (by kernel_rfl)) (fun _ _ _ h => h) (Or.inl ⟨by rfl, ?_⟩) ?_ ?_
                  rotate_left
                  ·intro w'
                   go_simp
                   with_reducible rfl
                  rotate_left
                  ·simp only [Act.put, List.setIfInBounds_toArray, List.set_cons_zero, List.set_cons_succ, i64_w, i32_w]
                   rfl
                  refine pure_ (i := 20) (N := some 139) (v := ?_) (a' := ?_) #[true, true, true, true, true, true, true, true, true, true, true, true, true, true, true, true, true, true, true, true, true, false, false, false, false, false, false, false, false, false, false, false, false, false, false, false] rfl rfl (any_of HT_.out (by kernel_rfl)) (fun _ _ _ h => h) (Or.inl ⟨by rfl, ?_⟩) ?_ ?_
                  rotate_left
                  ·intro w'
                   go_simp
                   with_reducible rfl
                  rotate_left
                  ·simp only [Act.put, List.setIfInBounds_toArray, List.set_cons_zero, List.set_cons_succ, i64_w, i32_w]
                   rfl
                  refine pure_ (i := 21) (N := some 140) (v := ?_) (a' := ?_) #[true, true, true, true, true, true, true, true, true, true, true, true, true, true, true, true, true, true, true, true, true, true, false, false, false, false, false, false, false, false, false, false, false, false, false, false] rfl rfl (any_of HT_.out (by kernel_rfl)) (fun _ _ _ h => h) (Or.inl ⟨by rfl, ?_⟩) ?_ ?_
                  rotate_left
                  ·intro w'
                   go_simp
                   with_reducible rfl
                  rotate_left
                  ·simp only [Act.put, List.setIfInBounds_toArray, List.set_cons_zero, List.set_cons_succ, i64_w, i32_w]
                   rfl
                  refine take_ (i := 22) (N := some 141) (v := ?_) (a' := ?_) #[true, true, true, true, true, true, true, true, true, true, true, true, true, true, true, true, true, true, true, true, true, true, true, false, false, false, false, false, false, false, false, false, false, false, false, false] rfl rfl (take_ofW HT_.out HW_.out (by kernel_rfl)) (fun _ _ _ h => h) (Or.inl ⟨by rfl, ?_⟩) hHeld ?_ ?_
                  rotate_left
                  ·rintro w' ⟨s0, s1, s2, s3⟩
                   go_simp
                   with_reducible rfl
                  rotate_left
                  ·simp only [Act.put, List.setIfInBounds_toArray, List.set_cons_zero, List.set_cons_succ, i64_w, i32_w]
                   rfl
                  refine take_ (i := 24) (N := some 143) (v := ?_) (a' := ?_) #[true, true, true, true, true, true, true, true, true, true, true, true, true, true, true, true, true, true, true, true, true, true, true, false, true, false, false, false, false, false, false, false, false, false, false, false] rfl rfl (take_ofW HT_.out HW_.out (by kernel_rfl)) (fun _ _ _ h => h) (Or.inl ⟨by rfl, ?_⟩) hHeld ?_ ?_
                  rotate_left
                  ·rintro w' ⟨s0, s1, s2, s3⟩
                   go_simp
                   with_reducible rfl
                  rotate_left
                  ·simp only [Act.put, List.setIfInBounds_toArray, List.set_cons_zero, List.set_cons_succ, i64_w, i32_w]
                   rfl
                  refine one_ (i := 23) (N := some 142) #[true, true, true, true, true, true, true, true, true, true, true, true, true, true, true, true, true, true, true, true, true, true, true, true, true, false, false, false, false, false, false, false, false, false, false, false] rfl rfl (one_of HT_.out (by kernel_rfl)) (by decide) (fun K hK => ?_)
                  refine goes_ Try.func29 (by kernel_rfl) rfl #[.agg #[.int .i64 a0_0, .string a0_1, .int .i64 a0_2, .string a0_3]] (by rfl) rfl rfl (by (try simp only [List.map_toArray, List.map_cons, List.map_nil]); first | done | rfl | (simp only [List.length_drop, List.length_take]; rfl)) ?_
                  with_reducible refine (kind_Show.calls k2 a0_0 a0_1 a0_2 a0_3 t412 _ A66.out).mono ?_
                  rintro e w74 ⟨rfl, hb⟩
                  refine ⟨_, rfl, ?_⟩
                  have n0_ := Aside0.mk (Kd.R_below (pxr HO_106) hb)
                  have n1_ := pxk BK359 hb
                  have n2_ := pxs HB hb
                  clear HO_106
                  clear BK359
                  clear HB
                  have HO_106 := n0_
                  have BK359 := n1_
                  have HB := n2_
                  clear n0_ n1_ n2_
                  (try clear hb)
                  (try clear hb2)
                  (try clear hk)
                  (try clear hi)
                  refine hK.out _ _ ⟨(blk_cell BK359.out 0).trans rfl, (blk_cell BK359.out 1).trans rfl, (blk_cell BK359.out 2).trans rfl, (blk_cell BK359.out 3).trans rfl⟩ (fun hHeld => ?_)
                  clear hK K
                  refine norm_ (a' := ?_) ?_ ?_
                  rotate_left
                  ·show Act.put _ (some 142) _ = _
                   simp only [Act.put, List.setIfInBounds_toArray, List.set_cons_zero, List.set_cons_succ, i64_w, i32_w]
                   rfl
                  refine one_ (i := 25) (N := some 144) #[true, true, true, true, true, true, true, true, true, true, true, true, true, true, true, true, true, true, true, true, true, true, true, true, true, true, false, false, false, false, false, false, false, false, false, false] rfl rfl (one_of HT_.out (by kernel_rfl)) (by decide) (fun K hK => ?_)
                  refine goes_ Try.func30 (by kernel_rfl) rfl #[.agg #[.int .i64 a0_0, .string a0_1, .int .i64 a0_2, .string a0_3]] (by rfl) rfl rfl (by (try simp only [List.map_toArray, List.map_cons, List.map_nil]); first | done | rfl | (simp only [List.length_drop, List.length_take]; rfl)) ?_
                  with_reducible refine (caulkerref07_Type.calls k2 a0_0 a0_1 a0_2 a0_3 t413 _ A67.out).mono ?_
                  rintro e w75 ⟨rfl, hb⟩
                  refine ⟨_, rfl, ?_⟩
                  have n0_ := Aside0.mk (Kd.R_below (pxr HO_106) hb)
                  have n1_ := pxk BK359 hb
                  have n2_ := pxs HB hb
                  clear HO_106
                  clear BK359
                  clear HB
                  have HO_106 := n0_
                  have BK359 := n1_
                  have HB := n2_
                  clear n0_ n1_ n2_
                  (try clear hb)
                  (try clear hb2)
                  (try clear hk)
                  (try clear hi)
                  refine hK.out _ _ ⟨(blk_cell BK359.out 0).trans rfl, (blk_cell BK359.out 1).trans rfl, (blk_cell BK359.out 2).trans rfl, (blk_cell BK359.out 3).trans rfl⟩ (fun hHeld => ?_)
                  clear hK K
                  refine norm_ (a' := ?_) ?_ ?_
                  rotate_left
                  ·show Act.put _ (some 144) _ = _
                   simp only [Act.put, List.setIfInBounds_toArray, List.set_cons_zero, List.set_cons_succ, i64_w, i32_w]
                   rfl
                  refine pure_ (i := 26) (N := some 145) (v := ?_) (a' := ?_) #[true, true, true, true, true, true, true, true, true, true, true, true, true, true, true, true, true, true, true, true, true, true, true, true, true, true, true, false, false, false, false, false, false, false, false, false] rfl rfl (any_of HT_.out (by kernel_rfl)) (fun _ _ _ h => h) (Or.inl ⟨by rfl, ?_⟩) ?_ ?_
                  rotate_left
                  ·intro w'
                   go_simp
                   with_reducible rfl
                  rotate_left
                  ·simp only [Act.put, List.setIfInBounds_toArray, List.set_cons_zero, List.set_cons_succ, i64_w, i32_w]
                   rfl
                  refine pure_ (i := 27) (N := some 146) (v := ?_) (a' := ?_) #[true, true, true, true, true, true, true, true, true, true, true, true, true, true, true, true, true, true, true, true, true, true, true, true, true, true, true, true, false, false, false, false, false, false, false, false] rfl rfl (any_of HT_.out (by kernel_rfl)) (fun _ _ _ h => h) (Or.inl ⟨by rfl, ?_⟩) ?_ ?_
                  rotate_left
                  ·intro w'
                   go_simp
                   with_reducible rfl
                  rotate_left
                  ·simp only [Act.put, List.setIfInBounds_toArray, List.set_cons_zero, List.set_cons_succ, i64_w, i32_w]
                   rfl
                  refine pure_ (i := 28) (N := some 147) (v := ?_) (a' := ?_) #[true, true, true, true, true, true, true, true, true, true, true, true, true, true, true, true, true, true, true, true, true, true, true, true, true, true, true, true, true, false, false, false, false, false, false, false] rfl rfl (any_of HT_.out (by kernel_rfl)) (fun _ _ _ h => h) (Or.inl ⟨by rfl, ?_⟩) ?_ ?_
                  rotate_left
                  ·intro w'
                   go_simp
                   with_reducible rfl
                  rotate_left
                  ·simp only [Act.put, List.setIfInBounds_toArray, List.set_cons_zero, List.set_cons_succ, i64_w, i32_w]
                   rfl
                  refine take_ (i := 29) (N := some 148) (v := ?_) (a' := ?_) #[true, true, true, true, true, true, true, true, true, true, true, true, true, true, true, true, true, true, true, true, true, true, true, true, true, true, true, true, true, true, false, false, false, false, false, false] rfl rfl (take_ofW HT_.out HW_.out (by kernel_rfl)) (fun _ _ _ h => h) (Or.inl ⟨by rfl, ?_⟩) hHeld ?_ ?_
                  rotate_left
                  ·rintro w' ⟨s0, s1, s2, s3⟩
                   go_simp
                   with_reducible rfl
                  rotate_left
                  ·simp only [Act.put, List.setIfInBounds_toArray, List.set_cons_zero, List.set_cons_succ, i64_w, i32_w]
                   rfl
                  refine take_ (i := 31) (N := some 150) (v := ?_) (a' := ?_) #[true, true, true, true, true, true, true, true, true, true, true, true, true, true, true, true, true, true, true, true, true, true, true, true, true, true, true, true, true, true, false, true, false, false, false, false] rfl rfl (take_ofW HT_.out HW_.out (by kernel_rfl)) (fun _ _ _ h => h) (Or.inl ⟨by rfl, ?_⟩) hHeld ?_ ?_
                  rotate_left
                  ·rintro w' ⟨s0, s1, s2, s3⟩
                   go_simp
                   with_reducible rfl
                  rotate_left
                  ·simp only [Act.put, List.setIfInBounds_toArray, List.set_cons_zero, List.set_cons_succ, i64_w, i32_w]
                   rfl
                  refine one_ (i := 30) (N := some 149) #[true, true, true, true, true, true, true, true, true, true, true, true, true, true, true, true, true, true, true, true, true, true, true, true, true, true, true, true, true, true, true, true, false, false, false, false] rfl rfl (one_of HT_.out (by kernel_rfl)) (by decide) (fun K hK => ?_)
                  refine goes_ Try.func22 (by kernel_rfl) rfl #[.agg #[.int .i64 a0_0, .string a0_1, .int .i64 a0_2, .string a0_3]] (by rfl) rfl rfl (by (try simp only [List.map_toArray, List.map_cons, List.map_nil]); first | done | rfl | (simp only [List.length_drop, List.length_take]; rfl)) ?_
                  with_reducible refine (kind_Bare.calls k2 a0_0 a0_1 a0_2 a0_3 t414 t415 t416 t417 _ A69.out).mono ?_
                  rintro e w76 ⟨rfl, hb⟩
                  refine ⟨_, rfl, ?_⟩
                  have n0_ := Aside0.mk (Kd.R_below (pxr HO_106) hb)
                  have n1_ := pxk BK359 hb
                  have n2_ := pxs HB hb
                  clear HO_106
                  clear BK359
                  clear HB
                  have HO_106 := n0_
                  have BK359 := n1_
                  have HB := n2_
                  clear n0_ n1_ n2_
                  (try clear hb)
                  (try clear hb2)
                  (try clear hk)
                  (try clear hi)
                  refine hK.out _ _ ⟨(blk_cell BK359.out 0).trans rfl, (blk_cell BK359.out 1).trans rfl, (blk_cell BK359.out 2).trans rfl, (blk_cell BK359.out 3).trans rfl⟩ (fun hHeld => ?_)
                  clear hK K
                  refine norm_ (a' := ?_) ?_ ?_
                  rotate_left
                  ·show Act.put _ (some 149) _ = _
                   simp only [Act.put, List.setIfInBounds_toArray, List.set_cons_zero, List.set_cons_succ, i64_w, i32_w]
                   rfl
                  refine one_ (i := 32) (N := some 151) #[true, true, true, true, true, true, true, true, true, true, true, true, true, true, true, true, true, true, true, true, true, true, true, true, true, true, true, true, true, true, true, true, true, false, false, false] rfl rfl (one_of HT_.out (by kernel_rfl)) (by decide) (fun K hK => ?_)
                  refine goes_ Try.func31 (by kernel_rfl) rfl #[.agg #[.int .i64 a0_0, .string a0_1, .int .i64 a0_2, .string a0_3]] (by rfl) rfl rfl (by (try simp only [List.map_toArray, List.map_cons, List.map_nil]); first | done | rfl | (simp only [List.length_drop, List.length_take]; rfl)) ?_
                  with_reducible refine (caulkerref07_Bare.calls a0_0 a0_1 a0_2 a0_3 t418 t419 t420 t421 _ A70.out).mono ?_
                  rintro e w77 ⟨rfl, hb⟩
                  refine ⟨_, rfl, ?_⟩
                  have n0_ := Aside0.mk (Kd.R_below (pxr HO_106) hb)
                  have n1_ := pxk BK359 hb
                  have n2_ := pxs HB hb
                  clear HO_106
                  clear BK359
                  clear HB
                  have HO_106 := n0_
                  have BK359 := n1_
                  have HB := n2_
                  clear n0_ n1_ n2_
                  (try clear hb)
                  (try clear hb2)
                  (try clear hk)
                  (try clear hi)
                  refine hK.out _ _ ⟨(blk_cell BK359.out 0).trans rfl, (blk_cell BK359.out 1).trans rfl, (blk_cell BK359.out 2).trans rfl, (blk_cell BK359.out 3).trans rfl⟩ (fun hHeld => ?_)
                  clear hK K
                  refine norm_ (a' := ?_) ?_ ?_
                  rotate_left
                  ·show Act.put _ (some 151) _ = _
                   simp only [Act.put, List.setIfInBounds_toArray, List.set_cons_zero, List.set_cons_succ, i64_w, i32_w]
                   rfl
                  refine pure_ (i := 33) (N := some 152) (v := ?_) (a' := ?_) #[true, true, true, true, true, true, true, true, true, true, true, true, true, true, true, true, true, true, true, true, true, true, true, true, true, true, true, true, true, true, true, true, true, true, false, false] rfl rfl (any_of HT_.out (by kernel_rfl)) (fun _ _ _ h => h) (Or.inl ⟨by rfl, ?_⟩) ?_ ?_
                  rotate_left
                  ·intro w'
                   go_simp
                   with_reducible rfl
                  rotate_left
                  ·simp only [Act.put, List.setIfInBounds_toArray, List.set_cons_zero, List.set_cons_succ, i64_w, i32_w]
                   rfl
                  refine pure_ (i := 34) (N := some 153) (v := ?_) (a' := ?_) #[true, true, true, true, true, true, true, true, true, true, true, true, true, true, true, true, true, true, true, true, true, true, true, true, true, true, true, true, true, true, true, true, true, true, true, false] rfl rfl (any_of HT_.out (by kernel_rfl)) (fun _ _ _ h => h) (Or.inl ⟨by rfl, ?_⟩) ?_ ?_
                  rotate_left
                  ·intro w'
                   go_simp
                   with_reducible rfl
                  rotate_left
                  ·simp only [Act.put, List.setIfInBounds_toArray, List.set_cons_zero, List.set_cons_succ, i64_w, i32_w]
                   rfl
                  refine pure_ (i := 35) (N := some 2) (v := ?_) (a' := ?_) #[true, true, true, true, true, true, true, true, true, true, true, true, true, true, true, true, true, true, true, true, true, true, true, true, true, true, true, true, true, true, true, true, true, true, true, true] rfl rfl (any_of HT_.out (by kernel_rfl)) (fun _ _ _ h => h) (Or.inl ⟨by rfl, ?_⟩) ?_ ?_
                  rotate_left
                  ·intro w'
                   go_simp
                   with_reducible rfl
                  rotate_left
                  ·simp only [Act.put, List.setIfInBounds_toArray, List.set_cons_zero, List.set_cons_succ, i64_w, i32_w]
                   rfl
                  refine done_ (done_of HT_.out (by kernel_rfl)) ?_
                  try go_wp2
                  go_ret
                  exact ⟨by first | rfl | (simp [errW_none, errW_some] <;> rfl) | (simp [*, errW_none, errW_some] <;> rfl) | (simp [*, pxbeq, pxbne, errW_none, errW_some]; done), pxb HB⟩
                 ·rw [if_neg c68] at H
                  exact absurd H (by simp)
                ·rw [if_neg c65] at H
                 exact absurd H (by simp)
               ·rw [if_neg c63] at H
                exact absurd H (by simp)
              ·rw [if_neg c62] at H
               exact absurd H (by simp)
             ·rw [if_neg c60] at H
              exact absurd H (by simp)
        ·rw [if_neg c33] at H
         exact absurd H (by simp)
     ·replace c12 := Bool.eq_false_iff.mpr c12
      subst c12
      have H1 : ((kind_Ref.f k a0_0 a0_1 a0_2 a0_3).bind fun t381 => (if t381 = true then ((kind_Outer.f k a0_0 a0_1 a0_2 a0_3).bind fun t382 => (if 0 < (a0_3.size : Int) then (if t382 = (bt a0_3 0) then ((kind_Layers.f k a0_0 a0_1 a0_2 a0_3).bind fun t383 => (if (t383.length : Int) = 0 then ((kind_Show.f k a0_0 a0_1 a0_2 a0_3).bind fun t386 => (if (wrap64 (a0_0 - 7)) = 0 then (if t386.toList = ([110, 117, 108, 108] : List UInt8) then ((kind_Bare.f k a0_0 a0_1 a0_2 a0_3).bind fun bt387 => (some (bt387.1 == a0_0 && (bt387.2.1.toList == a0_1.toList && (bt387.2.2.1 == a0_2 && (bt387.2.2.2.toList == a0_3.toList)))))) else (none)) else (if (wrap64 (a0_0 - 7)) = 1 then (if t386.toList = ([110, 111, 110, 101] : List UInt8) then ((kind_Bare.f k a0_0 a0_1 a0_2 a0_3).bind fun bt391 => (some (bt391.1 == a0_0 && (bt391.2.1.toList == a0_1.toList && (bt391.2.2.1 == a0_2 && (bt391.2.2.2.toList == a0_3.toList)))))) else (none)) else (none)))) else (none))) else (none)) else (none))) else (none))) = some r := by rw [if_neg (show ¬ (false = true) by decide)] at H; exact H
      clear H
      have H := H1
      clear H1
      replace H := Option.bind_eq_some_iff.mp H
      obtain ⟨t381, A780, H⟩ := H
      replace H : (if t381 = true then ((kind_Outer.f k a0_0 a0_1 a0_2 a0_3).bind fun t382 => (if 0 < (a0_3.size : Int) then (if t382 = (bt a0_3 0) then ((kind_Layers.f k a0_0 a0_1 a0_2 a0_3).bind fun t383 => (if (t383.length : Int) = 0 then ((kind_Show.f k a0_0 a0_1 a0_2 a0_3).bind fun t386 => (if (wrap64 (a0_0 - 7)) = 0 then (if t386.toList = ([110, 117, 108, 108] : List UInt8) then ((kind_Bare.f k a0_0 a0_1 a0_2 a0_3).bind fun bt387 => (some (bt387.1 == a0_0 && (bt387.2.1.toList == a0_1.toList && (bt387.2.2.1 == a0_2 && (bt387.2.2.2.toList == a0_3.toList)))))) else (none)) else (if (wrap64 (a0_0 - 7)) = 1 then (if t386.toList = ([110, 111, 110, 101] : List UInt8) then ((kind_Bare.f k a0_0 a0_1 a0_2 a0_3).bind fun bt391 => (some (bt391.1 == a0_0 && (bt391.2.1.toList == a0_1.toList && (bt391.2.2.1 == a0_2 && (bt391.2.2.2.toList == a0_3.toList)))))) else (none)) else (none)))) else (none))) else (none)) else (none))) else (none)) = some r := H
      have A78 := Aside0.mk A780
      clear A780
      by_cases c79 : t381 = true
      ·subst c79
       have H1 : ((kind_Outer.f k a0_0 a0_1 a0_2 a0_3).bind fun t382 => (if 0 < (a0_3.size : Int) then (if t382 = (bt a0_3 0) then ((kind_Layers.f k a0_0 a0_1 a0_2 a0_3).bind fun t383 => (if (t383.length : Int) = 0 then ((kind_Show.f k a0_0 a0_1 a0_2 a0_3).bind fun t386 => (if (wrap64 (a0_0 - 7)) = 0 then (if t386.toList = ([110, 117, 108, 108] : List UInt8) then ((kind_Bare.f k a0_0 a0_1 a0_2 a0_3).bind fun bt387 => (some (bt387.1 == a0_0 && (bt387.2.1.toList == a0_1.toList && (bt387.2.2.1 == a0_2 && (bt387.2.2.2.toList == a0_3.toList)))))) else (none)) else (if (wrap64 (a0_0 - 7)) = 1 then (if t386.toList = ([110, 111, 110, 101] : List UInt8) then ((kind_Bare.f k a0_0 a0_1 a0_2 a0_3).bind fun bt391 => (some (bt391.1 == a0_0 && (bt391.2.1.toList == a0_1.toList && (bt391.2.2.1 == a0_2 && (bt391.2.2.2.toList == a0_3.toList)))))) else (none)) else (none)))) else (none))) else (none)) else (none))) = some r := by rw [if_pos rfl] at H; exact H
       clear H
       have H := H1
       clear H1
       replace H := Option.bind_eq_some_iff.mp H
       obtain ⟨t382, A800, H⟩ := H
       replace H : (if 0 < (a0_3.size : Int) then (if t382 = (bt a0_3 0) then ((kind_Layers.f k a0_0 a0_1 a0_2 a0_3).bind fun t383 => (if (t383.length : Int) = 0 then ((kind_Show.f k a0_0 a0_1 a0_2 a0_3).bind fun t386 => (if (wrap64 (a0_0 - 7)) = 0 then (if t386.toList = ([110, 117, 108, 108] : List UInt8) then ((kind_Bare.f k a0_0 a0_1 a0_2 a0_3).bind fun bt387 => (some (bt387.1 == a0_0 && (bt387.2.1.toList == a0_1.toList && (bt387.2.2.1 == a0_2 && (bt387.2.2.2.toList == a0_3.toList)))))) else (none)) else (if (wrap64 (a0_0 - 7)) = 1 then (if t386.toList = ([110, 111, 110, 101] : List UInt8) then ((kind_Bare.f k a0_0 a0_1 a0_2 a0_3).bind fun bt391 => (some (bt391.1 == a0_0 && (bt391.2.1.toList == a0_1.toList && (bt391.2.2.1 == a0_2 && (bt391.2.2.2.toList == a0_3.toList)))))) else (none)) else (none)))) else (none))) else (none)) else (none)) = some r := H
       have A80 := Aside0.mk A800
       clear A800
       by_cases c81 : 0 < (a0_3.size : Int)
       ·rw [if_pos c81] at H
        have c81b0 : decide (0 < (a0_3.size : Int)) = true := decide_eq_true c81
        have c81b1 : decide (0 < a0_3.size) = true := decide_eq_true (by omega)
        clear c81
        by_cases c83 : t382 = (bt a0_3 0)
        ·rw [if_pos c83] at H
         have c83b0 : (t382 == (bt a0_3 0)) = true := beq_iff_eq.mpr c83
         have c83b1 : (t382 != (bt a0_3 0)) = false := bne_eq_false_iff_eq.mpr c83
         clear c83
         replace H := Option.bind_eq_some_iff.mp H
         obtain ⟨t383, A840, H⟩ := H
         replace H : (if (t383.length : Int) = 0 then ((kind_Show.f k a0_0 a0_1 a0_2 a0_3).bind fun t386 => (if (wrap64 (a0_0 - 7)) = 0 then (if t386.toList = ([110, 117, 108, 108] : List UInt8) then ((kind_Bare.f k a0_0 a0_1 a0_2 a0_3).bind fun bt387 => (some (bt387.1 == a0_0 && (bt387.2.1.toList == a0_1.toList && (bt387.2.2.1 == a0_2 && (bt387.2.2.2.toList == a0_3.toList)))))) else (none)) else (if (wrap64 (a0_0 - 7)) = 1 then (if t386.toList = ([110, 111, 110, 101] : List UInt8) then ((kind_Bare.f k a0_0 a0_1 a0_2 a0_3).bind fun bt391 => (some (bt391.1 == a0_0 && (bt391.2.1.toList == a0_1.toList && (bt391.2.2.1 == a0_2 && (bt391.2.2.2.toList == a0_3.toList)))))) else (none)) else (none)))) else (none)) = some r := H
         have A84 := Aside0.mk A840
         clear A840
         by_cases c85 : (t383.length : Int) = 0
         ·rw [if_pos c85] at H
          have c85b0 : ((t383.length : Int) == 0) = true := beq_iff_eq.mpr c85
          have c85b1 : ((t383.length : Int) != 0) = false := bne_eq_false_iff_eq.mpr c85
          clear c85
          replace H := Option.bind_eq_some_iff.mp H
          obtain ⟨t386, A860, H⟩ := H
          replace H : (if (wrap64 (a0_0 - 7)) = 0 then (if t386.toList = ([110, 117, 108, 108] : List UInt8) then ((kind_Bare.f k a0_0 a0_1 a0_2 a0_3).bind fun bt387 => (some (bt387.1 == a0_0 && (bt387.2.1.toList == a0_1.toList && (bt387.2.2.1 == a0_2 && (bt387.2.2.2.toList == a0_3.toList)))))) else (none)) else (if (wrap64 (a0_0 - 7)) = 1 then (if t386.toList = ([110, 111, 110, 101] : List UInt8) then ((kind_Bare.f k a0_0 a0_1 a0_2 a0_3).bind fun bt391 => (some (bt391.1 == a0_0 && (bt391.2.1.toList == a0_1.toList && (bt391.2.2.1 == a0_2 && (bt391.2.2.2.toList == a0_3.toList)))))) else (none)) else (none))) = some r := H
          have A86 := Aside0.mk A860
          clear A860
          by_cases c87 : (wrap64 (a0_0 - 7)) = 0
          ·rw [if_pos c87] at H
           have c87b0 : ((wrap64 (a0_0 - 7)) == 0) = true := beq_iff_eq.mpr c87
           have c87b0ix : ∀ w_ : World, (Instr.index 44 (.agg #[.string ⟨#[110, 117, 108, 108]⟩, .string ⟨#[110, 111, 110, 101]⟩]) (.int .i64 (wrap64 (a0_0 - 7)))).run Try.prog w_ = .ok (.string ⟨#[110, 117, 108, 108]⟩) w_ := by
            intro w_
            have hu : Try.prog.underlying 44 = some (.array 2 9) := by kernel_rfl
            rw [beq_iff_eq.mp c87b0]
            simp [Instr.index, run_underlying hu, asIntOf, go_sem, part]
           have c87b1 : ((wrap64 (a0_0 - 7)) != 0) = false := bne_eq_false_iff_eq.mpr c87
           clear c87
           by_cases c88 : t386.toList = ([110, 117, 108, 108] : List UInt8)
           ·rw [if_pos c88] at H
            have c88b0 : (t386.toList == ([110, 117, 108, 108] : List UInt8)) = true := beq_iff_eq.mpr c88
            have c88b1 : (t386.toList != ([110, 117, 108, 108] : List UInt8)) = false := bne_eq_false_iff_eq.mpr c88
            clear c88
            replace H := Option.bind_eq_some_iff.mp H
            obtain ⟨⟨t387, t388, t389, t390⟩, A890, H⟩ := H
            replace H : (some (t387 == a0_0 && (t388.toList == a0_1.toList && (t389 == a0_2 && (t390.toList == a0_3.toList))))) = some r := H
            have A89 := Aside0.mk A890
            clear A890
            obtain rfl := Option.some.inj H
            go_enter Try.func8, Try.ntmps8
            try go_wp2_with (first | ((with_reducible refine gate_dst (N := 1) rfl ?_); refine box_event ?hg (N := 1) ?hd (cs := #[.int .i64 a0_0, .string a0_1, .int .i64 a0_2, .string a0_3]) (t := 23) ?hr ?_; (case hd => rfl); (case hg => rfl); (case hr => first | (go_simp; done) | (go_simp; rfl)); intro gb359 hg w90 hbox hb; have BK359 := Aside0.mk (hbox); have GW359 := pxw HB hg; have GE359 := pxw HB hg; replace HB := pxs HB hb; clear hb hbox hg) | ((with_reducible refine gate_callee (f := 9) rfl ?_); refine goesL_ (some 7) rfl rfl Try.func9 (by kernel_rfl) rfl #[] rfl (by (try simp only [List.map_toArray, List.map_cons, List.map_nil]); first | done | rfl | (simp only [List.length_drop, List.length_take]; rfl)) ?_; (with_reducible refine (caulkerlaw10_sorts.calls k  true _ A2.out).mono ?_); rintro e w91 ⟨rfl, hb⟩; refine ⟨_, rfl, ?_⟩; replace BK359 := pxk BK359 hb; replace HB := pxs HB hb; (try clear hb); (try clear hb2); (try clear hk); (try clear hi); obtain ⟨hcz92_0, hcz92_1, hcz92_2, hcz92_3, hfz92_0, hfz92_1, hfz92_2, hfz92_3⟩ := pxf4 BK359) | ((with_reducible refine gate_dst (N := 10) rfl ?_); refine Kd.R_lit k23 _ 23 ?hg (N := 10) ?hd (xs := ([(⟨a0_0, a0_1, a0_2, a0_3⟩ : S23)] : List (S23))) (inner := [.int .i64 a0_0, .string a0_1, .int .i64 a0_2, .string a0_3]) (ok := fun _ => True) (okp := fun _ => True) ?hr ?hp (fun _ hk => hk) trivial (Below.refl _ _) (Nat.le_refl _) (by simp) ?_; (case hd => rfl); (case hg => rfl); (case hr => first | (go_simp; done) | (go_simp; rfl)); (case hp => exact (Reps.c4 (show Kd.M k23 _ _ _ (⟨a0_0, a0_1, a0_2, a0_3⟩ : S23) [.int .i64 a0_0, .string a0_1, .int .i64 a0_2, .string a0_3] from (k23_mkM _ _ _ (⟨a0_0, a0_1, a0_2, a0_3⟩ : S23) )) (Reps.none _ _))); intro v362 w93 ho94 hb hg_ hnew_; clear hg_ hnew_; (first | rw [← Ny361.out] at ho94 | (simp only [Int.reduceToNat] at ho94; rw [← Ny361.out] at ho94)); have HO363 := Aside0.mk (Kd.R_lower (Kd.R_newB ho94 (g := gb359) (o := .cells #[.int .i64 a0_0, .string a0_1, .int .i64 a0_2, .string a0_3] 23 (0, 0)) (pxq BK359)) (below_size (pxb HB))); replace BK359 := pxk BK359 hb; replace HB := pxs HB hb; clear hb ho94; obtain ⟨Ao95, co95, eo95⟩ := Kd.R_slice HO363.out; subst eo95) | ((with_reducible refine gate_callee (f := 10) rfl ?_); refine goesL_ (some 11) rfl rfl Try.func10 (by kernel_rfl) rfl #[.slice Ao95 y361.length co95] rfl (by (try simp only [List.map_toArray, List.map_cons, List.map_nil]); first | done | rfl | (simp only [List.length_drop, List.length_take]; rfl)) ?_; (with_reducible refine (caulkerlaw10_small.calls k _ _ y361 true _ ?side1 ?side2 A4.out).mono ?_); (case side1 => repeat (first | exact (Kd.R_reads' HO363.out).2.2 | (with_reducible refine Kd.C_alloc ?_ _) | (with_reducible refine Kd.C_drewN ?_ _) | (with_reducible refine Kd.C_drew ?_))); (case side2 => exact (Kd.R_reads' HO363.out).2.1); rintro e w96 ⟨rfl, hb⟩; refine ⟨_, rfl, ?_⟩; replace HO363 := Aside0.mk (Kd.R_below (pxr HO363) hb); replace BK359 := pxk BK359 hb; replace HB := pxs HB hb; (try clear hb); (try clear hb2); (try clear hk); (try clear hi)))
            have n0_ := Aside0.mk (Kd.R_drew HO363.out)
            have n1_ := Aside0.mk (blk_drew BK359.out)
            have n2_ := Aside0.mk (below_drew1 HB.out)
            clear HO363
            clear BK359
            clear HB
            have HO363 := n0_
            have BK359 := n1_
            have HB := n2_
            clear n0_ n1_ n2_
            refine start_ (n := 5) (S := fun w' => w'.cell? ⟨gb359, 0, none⟩ = some (.int .i64 a0_0) ∧ w'.cell? ⟨gb359, 1, none⟩ = some (.string a0_1) ∧ w'.cell? ⟨gb359, 2, none⟩ = some (.int .i64 a0_2) ∧ w'.cell? ⟨gb359, 3, none⟩ = some (.string a0_3)) (ds := []) #[false, false, false, false, false] (by kernel_rfl) rfl rfl ⟨(blk_cell BK359.out 0).trans rfl, (blk_cell BK359.out 1).trans rfl, (blk_cell BK359.out 2).trans rfl, (blk_cell BK359.out 3).trans rfl⟩ (fun hHeld => ?_)
            generalize w96.drew = w97 at HO363 BK359 HB hHeld ⊢
            refine take_ (i := 0) (N := some 13) (v := ?_) (a' := ?_) #[true, false, false, false, false] rfl rfl (by kernel_rfl) (fun _ _ _ h => h) (Or.inl ⟨by rfl, ?_⟩) hHeld ?_ ?_
            rotate_left
            ·rintro w' ⟨s0, s1, s2, s3⟩
             go_simp
             with_reducible rfl
            rotate_left
            ·simp only [Act.put, List.setIfInBounds_toArray, List.set_cons_zero, List.set_cons_succ, i64_w, i32_w]
             rfl
            refine take_ (i := 2) (N := some 15) (v := ?_) (a' := ?_) #[true, false, true, false, false] rfl rfl (by kernel_rfl) (fun _ _ _ h => h) (Or.inl ⟨by rfl, ?_⟩) hHeld ?_ ?_
            rotate_left
            ·rintro w' ⟨s0, s1, s2, s3⟩
             go_simp
             with_reducible rfl
            rotate_left
            ·simp only [Act.put, List.setIfInBounds_toArray, List.set_cons_zero, List.set_cons_succ, i64_w, i32_w]
             rfl
            refine one_ (i := 1) (N := some 14) #[true, true, true, false, false] rfl rfl (by kernel_rfl) (by decide) (fun K hK => ?_)
            refine goes_ Try.func26 (by kernel_rfl) rfl #[.agg #[.int .i64 a0_0, .string a0_1, .int .i64 a0_2, .string a0_3]] (by rfl) rfl rfl (by (try simp only [List.map_toArray, List.map_cons, List.map_nil]); first | done | rfl | (simp only [List.length_drop, List.length_take]; rfl)) ?_
            with_reducible refine (kind_Right.calls k a0_0 a0_1 a0_2 a0_3 t365 _ A6.out).mono ?_
            rintro e w98 ⟨rfl, hb⟩
            refine ⟨_, rfl, ?_⟩
            have n0_ := Aside0.mk (Kd.R_below (pxr HO363) hb)
            have n1_ := pxk BK359 hb
            have n2_ := pxs HB hb
            clear HO363
            clear BK359
            clear HB
            have HO363 := n0_
            have BK359 := n1_
            have HB := n2_
            clear n0_ n1_ n2_
            (try clear hb)
            (try clear hb2)
            (try clear hk)
            (try clear hi)
            refine hK.out _ _ ⟨(blk_cell BK359.out 0).trans rfl, (blk_cell BK359.out 1).trans rfl, (blk_cell BK359.out 2).trans rfl, (blk_cell BK359.out 3).trans rfl⟩ (fun hHeld => ?_)
            clear hK K
            refine norm_ (a' := ?_) ?_ ?_
            rotate_left
            ·show Act.put _ (some 14) _ = _
             simp only [Act.put, List.setIfInBounds_toArray, List.set_cons_zero, List.set_cons_succ, i64_w, i32_w]
             rfl
            refine one_ (i := 3) (N := some 16) #[true, true, true, true, false] rfl rfl (by kernel_rfl) (by decide) (fun K hK => ?_)
            refine goes_ Try.func11 (by kernel_rfl) rfl #[.agg #[.int .i64 a0_0, .string a0_1, .int .i64 a0_2, .string a0_3]] (by rfl) rfl rfl (by (try simp only [List.map_toArray, List.map_cons, List.map_nil]); first | done | rfl | (simp only [List.length_drop, List.length_take]; rfl)) ?_
            with_reducible refine (caulkerlaw10_right.calls k a0_0 a0_1 a0_2 a0_3 t366 _ A7.out).mono ?_
            rintro e w99 ⟨rfl, hb⟩
            refine ⟨_, rfl, ?_⟩
            have n0_ := Aside0.mk (Kd.R_below (pxr HO363) hb)
            have n1_ := pxk BK359 hb
            have n2_ := pxs HB hb
            clear HO363
            clear BK359
            clear HB
            have HO363 := n0_
            have BK359 := n1_
            have HB := n2_
            clear n0_ n1_ n2_
            (try clear hb)
            (try clear hb2)
            (try clear hk)
            (try clear hi)
            refine hK.out _ _ ⟨(blk_cell BK359.out 0).trans rfl, (blk_cell BK359.out 1).trans rfl, (blk_cell BK359.out 2).trans rfl, (blk_cell BK359.out 3).trans rfl⟩ (fun hHeld => ?_)
            clear hK K
            refine norm_ (a' := ?_) ?_ ?_
            rotate_left
            ·show Act.put _ (some 16) _ = _
             simp only [Act.put, List.setIfInBounds_toArray, List.set_cons_zero, List.set_cons_succ, i64_w, i32_w]
             rfl
            refine pure_ (i := 4) (N := some 17) (v := ?_) (a' := ?_) #[true, true, true, true, true] rfl rfl (by kernel_rfl) (fun _ _ _ h => h) (Or.inl ⟨by rfl, ?_⟩) ?_ ?_
            rotate_left
            ·intro w'
             go_simp
             with_reducible rfl
            rotate_left
            ·simp only [Act.put, List.setIfInBounds_toArray, List.set_cons_zero, List.set_cons_succ, i64_w, i32_w]
             rfl
            refine done_ (by kernel_rfl) ?_
            have hcz100_0 : w99.cell? ⟨gb359, 0, none⟩ = some (.int .i64 a0_0) := (blk_cell BK359.out 0).trans rfl
            have hcz100_1 : w99.cell? ⟨gb359, 1, none⟩ = some (.string a0_1) := (blk_cell BK359.out 1).trans rfl
            have hcz100_2 : w99.cell? ⟨gb359, 2, none⟩ = some (.int .i64 a0_2) := (blk_cell BK359.out 2).trans rfl
            have hcz100_3 : w99.cell? ⟨gb359, 3, none⟩ = some (.string a0_3) := (blk_cell BK359.out 3).trans rfl
            have hfz100_0 := blk_frozen BK359.out 0
            have hfz100_1 := blk_frozen BK359.out 1
            have hfz100_2 := blk_frozen BK359.out 2
            have hfz100_3 := blk_frozen BK359.out 3
            try go_wp2_with (first | ((with_reducible refine gate_callee (f := 11) rfl ?_); refine goesL_ (some 19) rfl rfl Try.func11 (by kernel_rfl) rfl #[.agg #[.int .i64 a0_0, .string a0_1, .int .i64 a0_2, .string a0_3]] rfl (by (try simp only [List.map_toArray, List.map_cons, List.map_nil]); first | done | rfl | (simp only [List.length_drop, List.length_take]; rfl)) ?_; (with_reducible refine (caulkerlaw10_right.calls k a0_0 a0_1 a0_2 a0_3 true _ A9.out).mono ?_); rintro e w101 ⟨rfl, hb⟩; refine ⟨_, rfl, ?_⟩; replace HO363 := Aside0.mk (Kd.R_below (pxr HO363) hb); replace BK359 := pxk BK359 hb; replace HB := pxs HB hb; (try clear hb); (try clear hb2); (try clear hk); (try clear hi); obtain ⟨hcz102_0, hcz102_1, hcz102_2, hcz102_3, hfz102_0, hfz102_1, hfz102_2, hfz102_3⟩ := pxf4 BK359) | ((with_reducible refine gate_callee (f := 17) rfl ?_); refine goesL_ (some 59) rfl rfl Try.func17 (by kernel_rfl) rfl #[.agg #[.int .i64 a0_0, .string a0_1, .int .i64 a0_2, .string a0_3]] rfl (by (try simp only [List.map_toArray, List.map_cons, List.map_nil]); first | done | rfl | (simp only [List.length_drop, List.length_take]; rfl)) ?_; (with_reducible refine (caulkerlaw10_plain.calls k a0_0 a0_1 a0_2 a0_3 false _ A11.out).mono ?_); rintro e w103 ⟨rfl, hb⟩; refine ⟨_, rfl, ?_⟩; replace HO363 := Aside0.mk (Kd.R_below (pxr HO363) hb); replace BK359 := pxk BK359 hb; replace HB := pxs HB hb; (try clear hb); (try clear hb2); (try clear hk); (try clear hi)))
            have n0_ := Aside0.mk (Kd.R_drew HO363.out)
            have n1_ := Aside0.mk (blk_drew BK359.out)
            have n2_ := Aside0.mk (below_drew1 HB.out)
            clear HO363
            clear BK359
            clear HB
            have HO363 := n0_
            have BK359 := n1_
            have HB := n2_
            clear n0_ n1_ n2_
            have p82 : 0 ≤ (0 : Int) := (by omega)
            have q82 : 0 < a0_3.size := (by have : (0 : Int) < (a0_3.size : Int) := pxd; omega)
            have hx82 : ∀ h : 0 < a0_3.size, ((a0_3[0]'h).toNat : Int) = bt a0_3 0 := bt_at a0_3 0
            refine start_ (n := 33) (S := fun w' => w'.cell? ⟨gb359, 0, none⟩ = some (.int .i64 a0_0) ∧ w'.cell? ⟨gb359, 1, none⟩ = some (.string a0_1) ∧ w'.cell? ⟨gb359, 2, none⟩ = some (.int .i64 a0_2) ∧ w'.cell? ⟨gb359, 3, none⟩ = some (.string a0_3)) (ds := []) #[false, false, false, false, false, false, false, false, false, false, false, false, false, false, false, false, false, false, false, false, false, false, false, false, false, false, false, false, false, false, false, false, false] (by kernel_rfl) rfl rfl ⟨(blk_cell BK359.out 0).trans rfl, (blk_cell BK359.out 1).trans rfl, (blk_cell BK359.out 2).trans rfl, (blk_cell BK359.out 3).trans rfl⟩ (fun hHeld => ?_); refine with_tabW caulkerlaw10_KindTells.tab10 caulkerlaw10_KindTells.bits10 (fun HT_ HW_ => ?_)
            generalize w103.drew = w104 at HO363 BK359 HB hHeld ⊢
            refine take_ (i := 0) (N := some 61) (v := ?_) (a' := ?_) #[true, false, false, false, false, false, false, false, false, false, false, false, false, false, false, false, false, false, false, false, false, false, false, false, false, false, false, false, false, false, false, false, false] rfl rfl (take_ofW HT_.out HW_.out (by kernel_rfl)) (fun _ _ _ h => h) (Or.inl ⟨by rfl, ?_⟩) hHeld ?_ ?_
            rotate_left
            ·rintro w' ⟨s0, s1, s2, s3⟩
             go_simp
             with_reducible rfl
            rotate_left
            ·simp only [Act.put, List.setIfInBounds_toArray, List.set_cons_zero, List.set_cons_succ, i64_w, i32_w]
             rfl
            refine one_ (i := 1) (N := some 62) #[true, true, false, false, false, false, false, false, false, false, false, false, false, false, false, false, false, false, false, false, false, false, false, false, false, false, false, false, false, false, false, false, false] rfl rfl (one_of HT_.out (by kernel_rfl)) (by decide) (fun K hK => ?_)
            refine goes_ Try.func27 (by kernel_rfl) rfl #[.agg #[.int .i64 a0_0, .string a0_1, .int .i64 a0_2, .string a0_3]] (by rfl) rfl rfl (by (try simp only [List.map_toArray, List.map_cons, List.map_nil]); first | done | rfl | (simp only [List.length_drop, List.length_take]; rfl)) ?_
            with_reducible refine (kind_Ref.calls k a0_0 a0_1 a0_2 a0_3 true _ A78.out).mono ?_
            rintro e w105 ⟨rfl, hb⟩
            refine ⟨_, rfl, ?_⟩
            have n0_ := Aside0.mk (Kd.R_below (pxr HO363) hb)
            have n1_ := pxk BK359 hb
            have n2_ := pxs HB hb
            clear HO363
            clear BK359
            clear HB
            have HO363 := n0_
            have BK359 := n1_
            have HB := n2_
            clear n0_ n1_ n2_
            (try clear hb)
            (try clear hb2)
            (try clear hk)
            (try clear hi)
            refine hK.out _ _ ⟨(blk_cell BK359.out 0).trans rfl, (blk_cell BK359.out 1).trans rfl, (blk_cell BK359.out 2).trans rfl, (blk_cell BK359.out 3).trans rfl⟩ (fun hHeld => ?_)
            clear hK K
            refine norm_ (a' := ?_) ?_ ?_
            rotate_left
            ·show Act.put _ (some 62) _ = _
             simp only [Act.put, List.setIfInBounds_toArray, List.set_cons_zero, List.set_cons_succ, i64_w, i32_w]
             rfl
            refine pure_ (i := 2) (N := some 63) (v := ?_) (a' := ?_) #[true, true, true, false, false, false, false, false, false, false, false, false, false, false, false, false, false, false, false, false, false, false, false, false, false, false, false, false, false, false, false, false, false] rfl rfl (any_of HT_.out (by kernel_rfl)) (fun _ _ _ h => h) (Or.inl ⟨by rfl, ?_⟩) ?_ ?_
            rotate_left
            ·intro w'
             go_simp
             with_reducible rfl
            rotate_left
            ·simp only [Act.put, List.setIfInBounds_toArray, List.set_cons_zero, List.set_cons_succ, i64_w, i32_w]
             rfl
            refine pure_ (i := 5) (N := some 66) (v := ?_) (a' := ?_) #[true, true, true, false, false, true, false, false, false, false, false, false, false, false, false, false, false, false, false, false, false, false, false, false, false, false, false, false, false, false, false, false, false] rfl rfl (any_of HT_.out (by kernel_rfl)) (fun _ _ _ h => h) (Or.inl ⟨by rfl, ?_⟩) ?_ ?_
            rotate_left
            ·intro w'
             go_simp
             with_reducible rfl
            rotate_left
            ·simp only [Act.put, List.setIfInBounds_toArray, List.set_cons_zero, List.set_cons_succ, i64_w, i32_w]
             rfl
            refine take_ (i := 3) (N := some 64) (v := ?_) (a' := ?_) #[true, true, true, true, false, true, false, false, false, false, false, false, false, false, false, false, false, false, false, false, false, false, false, false, false, false, false, false, false, false, false, false, false] rfl rfl (take_ofW HT_.out HW_.out (by kernel_rfl)) (fun _ _ _ h => h) (Or.inl ⟨by rfl, ?_⟩) hHeld ?_ ?_
            rotate_left
            ·rintro w' ⟨s0, s1, s2, s3⟩
             go_simp
             with_reducible rfl
            rotate_left
            ·simp only [Act.put, List.setIfInBounds_toArray, List.set_cons_zero, List.set_cons_succ, i64_w, i32_w]
             rfl
            refine take_ (i := 6) (N := some 67) (v := ?_) (a' := ?_) #[true, true, true, true, false, true, true, false, false, false, false, false, false, false, false, false, false, false, false, false, false, false, false, false, false, false, false, false, false, false, false, false, false] rfl rfl (take_ofW HT_.out HW_.out (by kernel_rfl)) (fun _ _ _ h => h) (Or.inl ⟨by rfl, ?_⟩) hHeld ?_ ?_
            rotate_left
            ·rintro w' ⟨s0, s1, s2, s3⟩
             go_simp
             with_reducible rfl
            rotate_left
            ·simp only [Act.put, List.setIfInBounds_toArray, List.set_cons_zero, List.set_cons_succ, i64_w, i32_w]
             rfl
            refine take_ (i := 7) (N := some 68) (v := ?_) (a' := ?_) #[true, true, true, true, false, true, true, true, false, false, false, false, false, false, false, false, false, false, false, false, false, false, false, false, false, false, false, false, false, false, false, false, false] rfl rfl (take_ofW HT_.out HW_.out (by kernel_rfl)) (fun _ _ _ h => h) (Or.inl ⟨by rfl, ?_⟩) hHeld ?_ ?_
            rotate_left
            ·rintro w' ⟨s0, s1, s2, s3⟩
             go_simp
             with_reducible rfl
            rotate_left
            ·simp only [Act.put, List.setIfInBounds_toArray, List.set_cons_zero, List.set_cons_succ, i64_w, i32_w]
             rfl
            refine one_ (i := 4) (N := some 65) #[true, true, true, true, true, true, true, true, false, false, false, false, false, false, false, false, false, false, false, false, false, false, false, false, false, false, false, false, false, false, false, false, false] rfl rfl (one_of HT_.out (by kernel_rfl)) (by decide) (fun K hK => ?_)
            refine goes_ Try.func21 (by kernel_rfl) rfl #[.agg #[.int .i64 a0_0, .string a0_1, .int .i64 a0_2, .string a0_3]] (by rfl) rfl rfl (by (try simp only [List.map_toArray, List.map_cons, List.map_nil]); first | done | rfl | (simp only [List.length_drop, List.length_take]; rfl)) ?_
            with_reducible refine (kind_Outer.calls k a0_0 a0_1 a0_2 a0_3 t382 _ A80.out).mono ?_
            rintro e w106 ⟨rfl, hb⟩
            refine ⟨_, rfl, ?_⟩
            have n0_ := Aside0.mk (Kd.R_below (pxr HO363) hb)
            have n1_ := pxk BK359 hb
            have n2_ := pxs HB hb
            clear HO363
            clear BK359
            clear HB
            have HO363 := n0_
            have BK359 := n1_
            have HB := n2_
            clear n0_ n1_ n2_
            (try clear hb)
            (try clear hb2)
            (try clear hk)
            (try clear hi)
            clear p82
            have qi82 : (0 < (a0_3.size : Int)) = True := eq_true (pxd)
            replace q82 := eq_true q82
            refine hK.out _ _ ⟨(blk_cell BK359.out 0).trans rfl, (blk_cell BK359.out 1).trans rfl, (blk_cell BK359.out 2).trans rfl, (blk_cell BK359.out 3).trans rfl⟩ (fun hHeld => ?_)
            clear hK K
            refine norm_ (a' := ?_) ?_ ?_
            rotate_left
            ·show Act.put _ (some 65) _ = _
             simp only [Act.put, List.setIfInBounds_toArray, List.set_cons_zero, List.set_cons_succ, i64_w, i32_w]
             rfl
            refine pure_ (i := 8) (N := some 69) (v := ?_) (a' := ?_) #[true, true, true, true, true, true, true, true, true, false, false, false, false, false, false, false, false, false, false, false, false, false, false, false, false, false, false, false, false, false, false, false, false] rfl rfl (any_of HT_.out (by kernel_rfl)) (fun _ _ _ h => h) (Or.inl ⟨by rfl, ?_⟩) ?_ ?_
            rotate_left
            ·intro w'
             go_simp
             with_reducible rfl
            rotate_left
            ·simp only [Act.put, List.setIfInBounds_toArray, List.set_cons_zero, List.set_cons_succ, i64_w, i32_w]
             rfl
            refine pure_ (i := 9) (N := some 70) (v := ?_) (a' := ?_) #[true, true, true, true, true, true, true, true, true, true, false, false, false, false, false, false, false, false, false, false, false, false, false, false, false, false, false, false, false, false, false, false, false] rfl rfl (any_of HT_.out (by kernel_rfl)) (fun _ _ _ h => h) (Or.inl ⟨by rfl, ?_⟩) ?_ ?_
            rotate_left
            ·intro w'
             go_simp
             with_reducible rfl
            rotate_left
            ·simp only [Act.put, List.setIfInBounds_toArray, List.set_cons_zero, List.set_cons_succ, i64_w, i32_w]
             rfl
            refine pure_ (i := 10) (N := some 71) (v := ?_) (a' := ?_) #[true, true, true, true, true, true, true, true, true, true, true, false, false, false, false, false, false, false, false, false, false, false, false, false, false, false, false, false, false, false, false, false, false] rfl rfl (any_of HT_.out (by kernel_rfl)) (fun _ _ _ h => h) (Or.inl ⟨by rfl, ?_⟩) ?_ ?_
            rotate_left
            ·intro w'
             go_simp
             with_reducible rfl
            rotate_left
            ·simp only [Act.put, List.setIfInBounds_toArray, List.set_cons_zero, List.set_cons_succ, i64_w, i32_w]
             rfl
            refine take_ (i := 11) (N := some 72) (v := ?_) (a' := ?_) #[true, true, true, true, true, true, true, true, true, true, true, true, false, false, false, false, false, false, false, false, false, false, false, false, false, false, false, false, false, false, false, false, false] rfl rfl (take_ofW HT_.out HW_.out (by kernel_rfl)) (fun _ _ _ h => h) (Or.inl ⟨by rfl, ?_⟩) hHeld ?_ ?_
            rotate_left
            ·rintro w' ⟨s0, s1, s2, s3⟩
             go_simp
             with_reducible rfl
            rotate_left
            ·simp only [Act.put, List.setIfInBounds_toArray, List.set_cons_zero, List.set_cons_succ, i64_w, i32_w]
             rfl
            refine one_ (i := 12) (N := some 73) #[true, true, true, true, true, true, true, true, true, true, true, true, true, false, false, false, false, false, false, false, false, false, false, false, false, false, false, false, false, false, false, false, false] rfl rfl (one_of HT_.out (by kernel_rfl)) (by decide) (fun K hK => ?_)
            refine goes_ Try.func28 (by kernel_rfl) rfl #[.agg #[.int .i64 a0_0, .string a0_1, .int .i64 a0_2, .string a0_3]] (by rfl) rfl rfl (by (try simp only [List.map_toArray, List.map_cons, List.map_nil]); first | done | rfl | (simp only [List.length_drop, List.length_take]; rfl)) ?_
            with_reducible refine (kind_Layers.calls k a0_0 a0_1 a0_2 a0_3 t383 _ A84.out).mono ?_
            rintro e w107 ⟨v384, rfl, ho0, hb⟩
            refine ⟨_, rfl, ?_⟩
            have n0_ := Aside0.mk (Kd.R_below (pxr HO363) hb)
            have n1_ := Aside0.mk (Kd.R_lower ho0 (below_size (pxb HB)))
            have n2_ := pxk BK359 hb
            have n3_ := pxs HB hb
            clear HO363
            clear BK359
            clear HB
            have HO363 := n0_
            have HO385 := n1_
            have BK359 := n2_
            have HB := n3_
            clear n0_ n1_ n2_ n3_
            (try clear hb)
            (try clear hb2)
            (try clear hk)
            (try clear hi)
            (try clear ho0)
            obtain ⟨Ao108, co108, eo108⟩ := Kd.R_slice HO385.out
            (first | subst eo108 | (injection eo108 with f1_ f2_ f3_; have f4_ := f1_.symm; have f5_ := f3_.symm; clear f1_ f2_ f3_; subst f4_; subst f5_))
            refine hK.out _ _ ⟨(blk_cell BK359.out 0).trans rfl, (blk_cell BK359.out 1).trans rfl, (blk_cell BK359.out 2).trans rfl, (blk_cell BK359.out 3).trans rfl⟩ (fun hHeld => ?_)
            clear hK K
            refine norm_ (a' := ?_) ?_ ?_
            rotate_left
            ·show Act.put _ (some 73) _ = _
             simp only [Act.put, List.setIfInBounds_toArray, List.set_cons_zero, List.set_cons_succ, i64_w, i32_w]
             rfl
            refine pure_ (i := 13) (N := some 74) (v := ?_) (a' := ?_) #[true, true, true, true, true, true, true, true, true, true, true, true, true, true, false, false, false, false, false, false, false, false, false, false, false, false, false, false, false, false, false, false, false] rfl rfl (any_of HT_.out (by kernel_rfl)) (fun _ _ _ h => h) (Or.inl ⟨by rfl, ?_⟩) ?_ ?_
            rotate_left
            ·intro w'
             go_simp
             with_reducible rfl
            rotate_left
            ·simp only [Act.put, List.setIfInBounds_toArray, List.set_cons_zero, List.set_cons_succ, i64_w, i32_w]
             rfl
            refine pure_ (i := 14) (N := some 75) (v := ?_) (a' := ?_) #[true, true, true, true, true, true, true, true, true, true, true, true, true, true, true, false, false, false, false, false, false, false, false, false, false, false, false, false, false, false, false, false, false] rfl rfl (any_of HT_.out (by kernel_rfl)) (fun _ _ _ h => h) (Or.inl ⟨by rfl, ?_⟩) ?_ ?_
            rotate_left
            ·intro w'
             go_simp
             with_reducible rfl
            rotate_left
            ·simp only [Act.put, List.setIfInBounds_toArray, List.set_cons_zero, List.set_cons_succ, i64_w, i32_w]
             rfl
            refine pure_ (i := 15) (N := some 76) (v := ?_) (a' := ?_) #[true, true, true, true, true, true, true, true, true, true, true, true, true, true, true, true, false, false, false, false, false, false, false, false, false, false, false, false, false, false, false, false, false] rfl rfl (any_of HT_.out (by kernel_rfl)) (fun _ _ _ h => h) (Or.inl ⟨by rfl, ?_⟩) ?_ ?_
            rotate_left
            ·intro w'
             go_simp
             with_reducible rfl
            rotate_left
            ·simp only [Act.put, List.setIfInBounds_toArray, List.set_cons_zero, List.set_cons_succ, i64_w, i32_w]
             rfl
            refine pure_ (i := 16) (N := some 77) (v := ?_) (a' := ?_) #[true, true, true, true, true, true, true, true, true, true, true, true, true, true, true, true, true, false, false, false, false, false, false, false, false, false, false, false, false, false, false, false, false] rfl rfl (any_of HT_.out (by kernel_rfl)) (fun _ _ _ h => h) (Or.inl ⟨by rfl, ?_⟩) ?_ ?_
            rotate_left
            ·intro w'
             go_simp
             with_reducible rfl
            rotate_left
            ·simp only [Act.put, List.setIfInBounds_toArray, List.set_cons_zero, List.set_cons_succ, i64_w, i32_w]
             rfl
            refine pure_ (i := 19) (N := some 80) (v := ?_) (a' := ?_) #[true, true, true, true, true, true, true, true, true, true, true, true, true, true, true, true, true, false, false, true, false, false, false, false, false, false, false, false, false, false, false, false, false] rfl rfl (any_of HT_.out (by kernel_rfl)) (fun _ _ _ h => h) (Or.inl ⟨by rfl, ?_⟩) ?_ ?_
            rotate_left
            ·intro w'
             go_simp
             with_reducible rfl
            rotate_left
            ·simp only [Act.put, List.setIfInBounds_toArray, List.set_cons_zero, List.set_cons_succ, i64_w, i32_w]
             rfl
            refine pure_ (i := 20) (N := some 81) (v := ?_) (a' := ?_) #[true, true, true, true, true, true, true, true, true, true, true, true, true, true, true, true, true, false, false, true, true, false, false, false, false, false, false, false, false, false, false, false, false] rfl rfl (any_of HT_.out (by kernel_rfl)) (fun _ _ _ h => h) (Or.inl ⟨by rfl, ?_⟩) ?_ ?_
            rotate_left
            ·intro w'
             go_simp
             with_reducible rfl
            rotate_left
            ·simp only [Act.put, List.setIfInBounds_toArray, List.set_cons_zero, List.set_cons_succ, i64_w, i32_w]
             rfl
            refine take_ (i := 17) (N := some 78) (v := ?_) (a' := ?_) #[true, true, true, true, true, true, true, true, true, true, true, true, true, true, true, true, true, true, false, true, true, false, false, false, false, false, false, false, false, false, false, false, false] rfl rfl (take_ofW HT_.out HW_.out (by kernel_rfl)) (fun _ _ _ h => h) (Or.inl ⟨by rfl, ?_⟩) hHeld ?_ ?_
            rotate_left
            ·rintro w' ⟨s0, s1, s2, s3⟩
             go_simp
             with_reducible rfl
            rotate_left
            ·simp only [Act.put, List.setIfInBounds_toArray, List.set_cons_zero, List.set_cons_succ, i64_w, i32_w]
             rfl
            refine take_ (i := 21) (N := some 82) (v := ?_) (a' := ?_) #[true, true, true, true, true, true, true, true, true, true, true, true, true, true, true, true, true, true, false, true, true, true, false, false, false, false, false, false, false, false, false, false, false] rfl rfl (take_ofW HT_.out HW_.out (by kernel_rfl)) (fun _ _ _ h => h) (Or.inl ⟨by rfl, ?_⟩) hHeld ?_ ?_
            rotate_left
            ·rintro w' ⟨s0, s1, s2, s3⟩
             go_simp
             with_reducible rfl
            rotate_left
            ·simp only [Act.put, List.setIfInBounds_toArray, List.set_cons_zero, List.set_cons_succ, i64_w, i32_w]
             rfl
            refine pure_ (i := 22) (N := some 83) (v := ?_) (a' := ?_) #[true, true, true, true, true, true, true, true, true, true, true, true, true, true, true, true, true, true, false, true, true, true, true, false, false, false, false, false, false, false, false, false, false] rfl rfl (any_of HT_.out (by kernel_rfl)) (fun _ _ _ h => h) (Or.inl ⟨by rfl, ?_⟩) ?_ ?_
            rotate_left
            ·intro w'
             go_simp
             with_reducible rfl
            rotate_left
            ·simp only [Act.put, List.setIfInBounds_toArray, List.set_cons_zero, List.set_cons_succ, i64_w, i32_w]
             rfl
            refine take_ (i := 23) (N := some 84) (v := ?_) (a' := ?_) #[true, true, true, true, true, true, true, true, true, true, true, true, true, true, true, true, true, true, false, true, true, true, true, true, false, false, false, false, false, false, false, false, false] rfl rfl (take_ofW HT_.out HW_.out (by kernel_rfl)) (fun _ _ _ h => h) (Or.inl ⟨by rfl, ?_⟩) hHeld ?_ ?_
            rotate_left
            ·rintro w' ⟨s0, s1, s2, s3⟩
             go_simp
             with_reducible rfl
            rotate_left
            ·simp only [Act.put, List.setIfInBounds_toArray, List.set_cons_zero, List.set_cons_succ, i64_w, i32_w]
             rfl
            refine one_ (i := 18) (N := some 79) #[true, true, true, true, true, true, true, true, true, true, true, true, true, true, true, true, true, true, true, true, true, true, true, true, false, false, false, false, false, false, false, false, false] rfl rfl (one_of HT_.out (by kernel_rfl)) (by decide) (fun K hK => ?_)
            refine goes_ Try.func29 (by kernel_rfl) rfl #[.agg #[.int .i64 a0_0, .string a0_1, .int .i64 a0_2, .string a0_3]] (by rfl) rfl rfl (by (try simp only [List.map_toArray, List.map_cons, List.map_nil]); first | done | rfl | (simp only [List.length_drop, List.length_take]; rfl)) ?_
            with_reducible refine (kind_Show.calls k a0_0 a0_1 a0_2 a0_3 t386 _ A86.out).mono ?_
            rintro e w109 ⟨rfl, hb⟩
            refine ⟨_, rfl, ?_⟩
            have n0_ := Aside0.mk (Kd.R_below (pxr HO363) hb)
            have n1_ := Aside0.mk (Kd.R_below (pxr HO385) hb)
            have n2_ := pxk BK359 hb
            have n3_ := pxs HB hb
            clear HO363
            clear HO385
            clear BK359
            clear HB
            have HO363 := n0_
            have HO385 := n1_
            have BK359 := n2_
            have HB := n3_
            clear n0_ n1_ n2_ n3_
            (try clear hb)
            (try clear hb2)
            (try clear hk)
            (try clear hi)
            refine hK.out _ _ ⟨(blk_cell BK359.out 0).trans rfl, (blk_cell BK359.out 1).trans rfl, (blk_cell BK359.out 2).trans rfl, (blk_cell BK359.out 3).trans rfl⟩ (fun hHeld => ?_)
            clear hK K
            refine norm_ (a' := ?_) ?_ ?_
            rotate_left
            ·show Act.put _ (some 79) _ = _
             simp only [Act.put, List.setIfInBounds_toArray, List.set_cons_zero, List.set_cons_succ, i64_w, i32_w]
             rfl
            refine pure_ (i := 24) (N := some 85) (v := ?_) (a' := ?_) #[true, true, true, true, true, true, true, true, true, true, true, true, true, true, true, true, true, true, true, true, true, true, true, true, true, false, false, false, false, false, false, false, false] rfl rfl (any_of HT_.out (by kernel_rfl)) (fun _ _ _ h => h) (Or.inl ⟨by rfl, ?_⟩) ?_ ?_
            rotate_left
            ·intro w'
             go_simp
             with_reducible rfl
            rotate_left
            ·simp only [Act.put, List.setIfInBounds_toArray, List.set_cons_zero, List.set_cons_succ, i64_w, i32_w]
             rfl
            refine pure_ (i := 25) (N := some 86) (v := ?_) (a' := ?_) #[true, true, true, true, true, true, true, true, true, true, true, true, true, true, true, true, true, true, true, true, true, true, true, true, true, true, false, false, false, false, false, false, false] rfl rfl (any_of HT_.out (by kernel_rfl)) (fun _ _ _ h => h) (Or.inl ⟨by rfl, ?_⟩) ?_ ?_
            rotate_left
            ·intro w'
             go_simp
             with_reducible rfl
            rotate_left
            ·simp only [Act.put, List.setIfInBounds_toArray, List.set_cons_zero, List.set_cons_succ, i64_w, i32_w]
             rfl
            refine pure_ (i := 26) (N := some 87) (v := ?_) (a' := ?_) #[true, true, true, true, true, true, true, true, true, true, true, true, true, true, true, true, true, true, true, true, true, true, true, true, true, true, true, false, false, false, false, false, false] rfl rfl (any_of HT_.out (by kernel_rfl)) (fun _ _ _ h => h) (Or.inl ⟨by rfl, ?_⟩) ?_ ?_
            rotate_left
            ·intro w'
             go_simp
             with_reducible rfl
            rotate_left
            ·simp only [Act.put, List.setIfInBounds_toArray, List.set_cons_zero, List.set_cons_succ, i64_w, i32_w]
             rfl
            refine take_ (i := 27) (N := some 88) (v := ?_) (a' := ?_) #[true, true, true, true, true, true, true, true, true, true, true, true, true, true, true, true, true, true, true, true, true, true, true, true, true, true, true, true, false, false, false, false, false] rfl rfl (take_ofW HT_.out HW_.out (by kernel_rfl)) (fun _ _ _ h => h) (Or.inl ⟨by rfl, ?_⟩) hHeld ?_ ?_
            rotate_left
            ·rintro w' ⟨s0, s1, s2, s3⟩
             go_simp
             with_reducible rfl
            rotate_left
            ·simp only [Act.put, List.setIfInBounds_toArray, List.set_cons_zero, List.set_cons_succ, i64_w, i32_w]
             rfl
            refine take_ (i := 29) (N := some 90) (v := ?_) (a' := ?_) #[true, true, true, true, true, true, true, true, true, true, true, true, true, true, true, true, true, true, true, true, true, true, true, true, true, true, true, true, false, true, false, false, false] rfl rfl (take_ofW HT_.out HW_.out (by kernel_rfl)) (fun _ _ _ h => h) (Or.inl ⟨by rfl, ?_⟩) hHeld ?_ ?_
            rotate_left
            ·rintro w' ⟨s0, s1, s2, s3⟩
             go_simp
             with_reducible rfl
            rotate_left
            ·simp only [Act.put, List.setIfInBounds_toArray, List.set_cons_zero, List.set_cons_succ, i64_w, i32_w]
             rfl
            refine one_ (i := 28) (N := some 89) #[true, true, true, true, true, true, true, true, true, true, true, true, true, true, true, true, true, true, true, true, true, true, true, true, true, true, true, true, true, true, false, false, false] rfl rfl (one_of HT_.out (by kernel_rfl)) (by decide) (fun K hK => ?_)
            refine goes_ Try.func22 (by kernel_rfl) rfl #[.agg #[.int .i64 a0_0, .string a0_1, .int .i64 a0_2, .string a0_3]] (by rfl) rfl rfl (by (try simp only [List.map_toArray, List.map_cons, List.map_nil]); first | done | rfl | (simp only [List.length_drop, List.length_take]; rfl)) ?_
            with_reducible refine (kind_Bare.calls k a0_0 a0_1 a0_2 a0_3 t387 t388 t389 t390 _ A89.out).mono ?_
            rintro e w110 ⟨rfl, hb⟩
            refine ⟨_, rfl, ?_⟩
            have n0_ := Aside0.mk (Kd.R_below (pxr HO363) hb)
            have n1_ := Aside0.mk (Kd.R_below (pxr HO385) hb)
            have n2_ := pxk BK359 hb
            have n3_ := pxs HB hb
            clear HO363
            clear HO385
            clear BK359
            clear HB
            have HO363 := n0_
            have HO385 := n1_
            have BK359 := n2_
            have HB := n3_
            clear n0_ n1_ n2_ n3_
            (try clear hb)
            (try clear hb2)
            (try clear hk)
            (try clear hi)
            refine hK.out _ _ ⟨(blk_cell BK359.out 0).trans rfl, (blk_cell BK359.out 1).trans rfl, (blk_cell BK359.out 2).trans rfl, (blk_cell BK359.out 3).trans rfl⟩ (fun hHeld => ?_)
            clear hK K
            refine norm_ (a' := ?_) ?_ ?_
            rotate_left
            ·show Act.put _ (some 89) _ = _
             simp only [Act.put, List.setIfInBounds_toArray, List.set_cons_zero, List.set_cons_succ, i64_w, i32_w]
             rfl
            refine pure_ (i := 30) (N := some 91) (v := ?_) (a' := ?_) #[true, true, true, true, true, true, true, true, true, true, true, true, true, true, true, true, true, true, true, true, true, true, true, true, true, true, true, true, true, true, true, false, false] rfl rfl (any_of HT_.out (by kernel_rfl)) (fun _ _ _ h => h) (Or.inl ⟨by rfl, ?_⟩) ?_ ?_
            rotate_left
            ·intro w'
             go_simp
             with_reducible rfl
            rotate_left
            ·simp only [Act.put, List.setIfInBounds_toArray, List.set_cons_zero, List.set_cons_succ, i64_w, i32_w]
             rfl
            refine pure_ (i := 31) (N := some 92) (v := ?_) (a' := ?_) #[true, true, true, true, true, true, true, true, true, true, true, true, true, true, true, true, true, true, true, true, true, true, true, true, true, true, true, true, true, true, true, true, false] rfl rfl (any_of HT_.out (by kernel_rfl)) (fun _ _ _ h => h) (Or.inl ⟨by rfl, ?_⟩) ?_ ?_
            rotate_left
            ·intro w'
             go_simp
             with_reducible rfl
            rotate_left
            ·simp only [Act.put, List.setIfInBounds_toArray, List.set_cons_zero, List.set_cons_succ, i64_w, i32_w]
             rfl
            refine pure_ (i := 32) (N := some 2) (v := ?_) (a' := ?_) #[true, true, true, true, true, true, true, true, true, true, true, true, true, true, true, true, true, true, true, true, true, true, true, true, true, true, true, true, true, true, true, true, true] rfl rfl (any_of HT_.out (by kernel_rfl)) (fun _ _ _ h => h) (Or.inl ⟨by rfl, ?_⟩) ?_ ?_
            rotate_left
            ·intro w'
             go_simp
             with_reducible rfl
            rotate_left
            ·simp only [Act.put, List.setIfInBounds_toArray, List.set_cons_zero, List.set_cons_succ, i64_w, i32_w]
             rfl
            refine done_ (done_of HT_.out (by kernel_rfl)) ?_
            try go_wp2
            go_ret
            exact ⟨by first | rfl | (simp [errW_none, errW_some] <;> rfl) | (simp [*, errW_none, errW_some] <;> rfl) | (simp [*, pxbeq, pxbne, errW_none, errW_some]; done), pxb HB⟩
           ·rw [if_neg c88] at H
            exact absurd H (by simp)
          ·rw [if_neg c87] at H
           have c87b0 : ((wrap64 (a0_0 - 7)) == 0) = false := beq_eq_false_iff_ne.mpr c87
           have c87b1 : ((wrap64 (a0_0 - 7)) != 0) = true := bne_iff_ne.mpr c87
           by_cases c111 : (wrap64 (a0_0 - 7)) = 1
           ·rw [if_pos c111] at H
            have c111b0 : ((wrap64 (a0_0 - 7)) == 1) = true := beq_iff_eq.mpr c111
            have c111b0ix : ∀ w_ : World, (Instr.index 44 (.agg #[.string ⟨#[110, 117, 108, 108]⟩, .string ⟨#[110, 111, 110, 101]⟩]) (.int .i64 (wrap64 (a0_0 - 7)))).run Try.prog w_ = .ok (.string ⟨#[110, 111, 110, 101]⟩) w_ := by
             intro w_
             have hu : Try.prog.underlying 44 = some (.array 2 9) := by kernel_rfl
             rw [beq_iff_eq.mp c111b0]
             simp [Instr.index, run_underlying hu, asIntOf, go_sem, part]
            have c111b1 : ((wrap64 (a0_0 - 7)) != 1) = false := bne_eq_false_iff_eq.mpr c111
            clear c111
            by_cases c112 : t386.toList = ([110, 111, 110, 101] : List UInt8)
            ·rw [if_pos c112] at H
             have c112b0 : (t386.toList == ([110, 111, 110, 101] : List UInt8)) = true := beq_iff_eq.mpr c112
             have c112b1 : (t386.toList != ([110, 111, 110, 101] : List UInt8)) = false := bne_eq_false_iff_eq.mpr c112
             clear c112
             replace H := Option.bind_eq_some_iff.mp H
             obtain ⟨⟨t391, t392, t393, t394⟩, A1130, H⟩ := H
             replace H : (some (t391 == a0_0 && (t392.toList == a0_1.toList && (t393 == a0_2 && (t394.toList == a0_3.toList))))) = some r := H
             have A113 := Aside0.mk A1130
             clear A1130
             obtain rfl := Option.some.inj H
             go_enter Try.func8, Try.ntmps8
             try go_wp2_with (first | ((with_reducible refine gate_dst (N := 1) rfl ?_); refine box_event ?hg (N := 1) ?hd (cs := #[.int .i64 a0_0, .string a0_1, .int .i64 a0_2, .string a0_3]) (t := 23) ?hr ?_; (case hd => rfl); (case hg => rfl); (case hr => first | (go_simp; done) | (go_simp; rfl)); intro gb359 hg w114 hbox hb; have BK359 := Aside0.mk (hbox); have GW359 := pxw HB hg; have GE359 := pxw HB hg; replace HB := pxs HB hb; clear hb hbox hg) | ((with_reducible refine gate_callee (f := 9) rfl ?_); refine goesL_ (some 7) rfl rfl Try.func9 (by kernel_rfl) rfl #[] rfl (by (try simp only [List.map_toArray, List.map_cons, List.map_nil]); first | done | rfl | (simp only [List.length_drop, List.length_take]; rfl)) ?_; (with_reducible refine (caulkerlaw10_sorts.calls k  true _ A2.out).mono ?_); rintro e w115 ⟨rfl, hb⟩; refine ⟨_, rfl, ?_⟩; replace BK359 := pxk BK359 hb; replace HB := pxs HB hb; (try clear hb); (try clear hb2); (try clear hk); (try clear hi); obtain ⟨hcz116_0, hcz116_1, hcz116_2, hcz116_3, hfz116_0, hfz116_1, hfz116_2, hfz116_3⟩ := pxf4 BK359) | ((with_reducible refine gate_dst (N := 10) rfl ?_); refine Kd.R_lit k23 _ 23 ?hg (N := 10) ?hd (xs := ([(⟨a0_0, a0_1, a0_2, a0_3⟩ : S23)] : List (S23))) (inner := [.int .i64 a0_0, .string a0_1, .int .i64 a0_2, .string a0_3]) (ok := fun _ => True) (okp := fun _ => True) ?hr ?hp (fun _ hk => hk) trivial (Below.refl _ _) (Nat.le_refl _) (by simp) ?_; (case hd => rfl); (case hg => rfl); (case hr => first | (go_simp; done) | (go_simp; rfl)); (case hp => exact (Reps.c4 (show Kd.M k23 _ _ _ (⟨a0_0, a0_1, a0_2, a0_3⟩ : S23) [.int .i64 a0_0, .string a0_1, .int .i64 a0_2, .string a0_3] from (k23_mkM _ _ _ (⟨a0_0, a0_1, a0_2, a0_3⟩ : S23) )) (Reps.none _ _))); intro v362 w117 ho118 hb hg_ hnew_; clear hg_ hnew_; (first | rw [← Ny361.out] at ho118 | (simp only [Int.reduceToNat] at ho118; rw [← Ny361.out] at ho118)); have HO363 := Aside0.mk (Kd.R_lower (Kd.R_newB ho118 (g := gb359) (o := .cells #[.int .i64 a0_0, .string a0_1, .int .i64 a0_2, .string a0_3] 23 (0, 0)) (pxq BK359)) (below_size (pxb HB))); replace BK359 := pxk BK359 hb; replace HB := pxs HB hb; clear hb ho118; obtain ⟨Ao119, co119, eo119⟩ := Kd.R_slice HO363.out; subst eo119) | ((with_reducible refine gate_callee (f := 10) rfl ?_); refine goesL_ (some 11) rfl rfl Try.func10 (by kernel_rfl) rfl #[.slice Ao119 y361.length co119] rfl (by (try simp only [List.map_toArray, List.map_cons, List.map_nil]); first | done | rfl | (simp only [List.length_drop, List.length_take]; rfl)) ?_; (with_reducible refine (caulkerlaw10_small.calls k _ _ y361 true _ ?side1 ?side2 A4.out).mono ?_); (case side1 => repeat (first | exact (Kd.R_reads' HO363.out).2.2 | (with_reducible refine Kd.C_alloc ?_ _) | (with_reducible refine Kd.C_drewN ?_ _) | (with_reducible refine Kd.C_drew ?_))); (case side2 => exact (Kd.R_reads' HO363.out).2.1); rintro e w120 ⟨rfl, hb⟩; refine ⟨_, rfl, ?_⟩; replace HO363 := Aside0.mk (Kd.R_below (pxr HO363) hb); replace BK359 := pxk BK359 hb; replace HB := pxs HB hb; (try clear hb); (try clear hb2); (try clear hk); (try clear hi)))
             have n0_ := Aside0.mk (Kd.R_drew HO363.out)
             have n1_ := Aside0.mk (blk_drew BK359.out)
             have n2_ := Aside0.mk (below_drew1 HB.out)
             clear HO363
             clear BK359
             clear HB
             have HO363 := n0_
             have BK359 := n1_
             have HB := n2_
             clear n0_ n1_ n2_
             refine start_ (n := 5) (S := fun w' => w'.cell? ⟨gb359, 0, none⟩ = some (.int .i64 a0_0) ∧ w'.cell? ⟨gb359, 1, none⟩ = some (.string a0_1) ∧ w'.cell? ⟨gb359, 2, none⟩ = some (.int .i64 a0_2) ∧ w'.cell? ⟨gb359, 3, none⟩ = some (.string a0_3)) (ds := []) #[false, false, false, false, false] (by kernel_rfl) rfl rfl ⟨(blk_cell BK359.out 0).trans rfl, (blk_cell BK359.out 1).trans rfl, (blk_cell BK359.out 2).trans rfl, (blk_cell BK359.out 3).trans rfl⟩ (fun hHeld => ?_)
             generalize w120.drew = w121 at HO363 BK359 HB hHeld ⊢
             refine take_ (i := 0) (N := some 13) (v := ?_) (a' := ?_) #[true, false, false, false, false] rfl rfl (by kernel_rfl) (fun _ _ _ h => h) (Or.inl ⟨by rfl, ?_⟩) hHeld ?_ ?_
             rotate_left
             ·rintro w' ⟨s0, s1, s2, s3⟩
              go_simp
              with_reducible rfl
             rotate_left
             ·simp only [Act.put, List.setIfInBounds_toArray, List.set_cons_zero, List.set_cons_succ, i64_w, i32_w]
              rfl
             refine take_ (i := 2) (N := some 15) (v := ?_) (a' := ?_) #[true, false, true, false, false] rfl rfl (by kernel_rfl) (fun _ _ _ h => h) (Or.inl ⟨by rfl, ?_⟩) hHeld ?_ ?_
             rotate_left
             ·rintro w' ⟨s0, s1, s2, s3⟩
              go_simp
              with_reducible rfl
             rotate_left
             ·simp only [Act.put, List.setIfInBounds_toArray, List.set_cons_zero, List.set_cons_succ, i64_w, i32_w]
              rfl
             refine one_ (i := 1) (N := some 14) #[true, true, true, false, false] rfl rfl (by kernel_rfl) (by decide) (fun K hK => ?_)
             refine goes_ Try.func26 (by kernel_rfl) rfl #[.agg #[.int .i64 a0_0, .string a0_1, .int .i64 a0_2, .string a0_3]] (by rfl) rfl rfl (by (try simp only [List.map_toArray, List.map_cons, List.map_nil]); first | done | rfl | (simp only [List.length_drop, List.length_take]; rfl)) ?_
             with_reducible refine (kind_Right.calls k a0_0 a0_1 a0_2 a0_3 t365 _ A6.out).mono ?_
             rintro e w122 ⟨rfl, hb⟩
             refine ⟨_, rfl, ?_⟩
             have n0_ := Aside0.mk (Kd.R_below (pxr HO363) hb)
             have n1_ := pxk BK359 hb
             have n2_ := pxs HB hb
             clear HO363
             clear BK359
             clear HB
             have HO363 := n0_
             have BK359 := n1_
             have HB := n2_
             clear n0_ n1_ n2_
             (try clear hb)
             (try clear hb2)
             (try clear hk)
             (try clear hi)
             refine hK.out _ _ ⟨(blk_cell BK359.out 0).trans rfl, (blk_cell BK359.out 1).trans rfl, (blk_cell BK359.out 2).trans rfl, (blk_cell BK359.out 3).trans rfl⟩ (fun hHeld => ?_)
             clear hK K
             refine norm_ (a' := ?_) ?_ ?_
             rotate_left
             ·show Act.put _ (some 14) _ = _
              simp only [Act.put, List.setIfInBounds_toArray, List.set_cons_zero, List.set_cons_succ, i64_w, i32_w]
              rfl
             refine one_ (i := 3) (N := some 16) #[true, true, true, true, false] rfl rfl (by kernel_rfl) (by decide) (fun K hK => ?_)
             refine goes_ Try.func11 (by kernel_rfl) rfl #[.agg #[.int .i64 a0_0, .string a0_1, .int .i64 a0_2, .string a0_3]] (by rfl) rfl rfl (by (try simp only [List.map_toArray, List.map_cons, List.map_nil]); first | done | rfl | (simp only [List.length_drop, List.length_take]; rfl)) ?_
             with_reducible refine (caulkerlaw10_right.calls k a0_0 a0_1 a0_2 a0_3 t366 _ A7.out).mono ?_
             rintro e w123 ⟨rfl, hb⟩
             refine ⟨_, rfl, ?_⟩
             have n0_ := Aside0.mk (Kd.R_below (pxr HO363) hb)
             have n1_ := pxk BK359 hb
             have n2_ := pxs HB hb
             clear HO363
             clear BK359
             clear HB
             have HO363 := n0_
             have BK359 := n1_
             have HB := n2_
             clear n0_ n1_ n2_
             (try clear hb)
             (try clear hb2)
             (try clear hk)
             (try clear hi)
             refine hK.out _ _ ⟨(blk_cell BK359.out 0).trans rfl, (blk_cell BK359.out 1).trans rfl, (blk_cell BK359.out 2).trans rfl, (blk_cell BK359.out 3).trans rfl⟩ (fun hHeld => ?_)
             clear hK K
             refine norm_ (a' := ?_) ?_ ?_
             rotate_left
             ·show Act.put _ (some 16) _ = _
              simp only [Act.put, List.setIfInBounds_toArray, List.set_cons_zero, List.set_cons_succ, i64_w, i32_w]
              rfl
             refine pure_ (i := 4) (N := some 17) (v := ?_) (a' := ?_) #[true, true, true, true, true] rfl rfl (by kernel_rfl) (fun _ _ _ h => h) (Or.inl ⟨by rfl, ?_⟩) ?_ ?_
             rotate_left
             ·intro w'
              go_simp
              with_reducible rfl
             rotate_left
             ·simp only [Act.put, List.setIfInBounds_toArray, List.set_cons_zero, List.set_cons_succ, i64_w, i32_w]
              rfl
             refine done_ (by kernel_rfl) ?_
             have hcz124_0 : w123.cell? ⟨gb359, 0, none⟩ = some (.int .i64 a0_0) := (blk_cell BK359.out 0).trans rfl
             have hcz124_1 : w123.cell? ⟨gb359, 1, none⟩ = some (.string a0_1) := (blk_cell BK359.out 1).trans rfl
             have hcz124_2 : w123.cell? ⟨gb359, 2, none⟩ = some (.int .i64 a0_2) := (blk_cell BK359.out 2).trans rfl
             have hcz124_3 : w123.cell? ⟨gb359, 3, none⟩ = some (.string a0_3) := (blk_cell BK359.out 3).trans rfl
             have hfz124_0 := blk_frozen BK359.out 0
             have hfz124_1 := blk_frozen BK359.out 1
             have hfz124_2 := blk_frozen BK359.out 2
             have hfz124_3 := blk_frozen BK359.out 3
             try go_wp2_with (first | ((with_reducible refine gate_callee (f := 11) rfl ?_); refine goesL_ (some 19) rfl rfl Try.func11 (by kernel_rfl) rfl #[.agg #[.int .i64 a0_0, .string a0_1, .int .i64 a0_2, .string a0_3]] rfl (by (try simp only [List.map_toArray, List.map_cons, List.map_nil]); first | done | rfl | (simp only [List.length_drop, List.length_take]; rfl)) ?_; (with_reducible refine (caulkerlaw10_right.calls k a0_0 a0_1 a0_2 a0_3 true _ A9.out).mono ?_); rintro e w125 ⟨rfl, hb⟩; refine ⟨_, rfl, ?_⟩; replace HO363 := Aside0.mk (Kd.R_below (pxr HO363) hb); replace BK359 := pxk BK359 hb; replace HB := pxs HB hb; (try clear hb); (try clear hb2); (try clear hk); (try clear hi); obtain ⟨hcz126_0, hcz126_1, hcz126_2, hcz126_3, hfz126_0, hfz126_1, hfz126_2, hfz126_3⟩ := pxf4 BK359) | ((with_reducible refine gate_callee (f := 17) rfl ?_); refine goesL_ (some 59) rfl rfl Try.func17 (by kernel_rfl) rfl #[.agg #[.int .i64 a0_0, .string a0_1, .int .i64 a0_2, .string a0_3]] rfl (by (try simp only [List.map_toArray, List.map_cons, List.map_nil]); first | done | rfl | (simp only [List.length_drop, List.length_take]; rfl)) ?_; (with_reducible refine (caulkerlaw10_plain.calls k a0_0 a0_1 a0_2 a0_3 false _ A11.out).mono ?_); rintro e w127 ⟨rfl, hb⟩; refine ⟨_, rfl, ?_⟩; replace HO363 := Aside0.mk (Kd.R_below (pxr HO363) hb); replace BK359 := pxk BK359 hb; replace HB := pxs HB hb; (try clear hb); (try clear hb2); (try clear hk); (try clear hi)))
             have n0_ := Aside0.mk (Kd.R_drew HO363.out)
             have n1_ := Aside0.mk (blk_drew BK359.out)
             have n2_ := Aside0.mk (below_drew1 HB.out)
             clear HO363
             clear BK359
             clear HB
             have HO363 := n0_
             have BK359 := n1_
             have HB := n2_
             clear n0_ n1_ n2_
             have p82 : 0 ≤ (0 : Int) := (by omega)
             have q82 : 0 < a0_3.size := (by have : (0 : Int) < (a0_3.size : Int) := pxd; omega)
             have hx82 : ∀ h : 0 < a0_3.size, ((a0_3[0]'h).toNat : Int) = bt a0_3 0 := bt_at a0_3 0
             refine start_ (n := 33) (S := fun w' => w'.cell? ⟨gb359, 0, none⟩ = some (.int .i64 a0_0) ∧ w'.cell? ⟨gb359, 1, none⟩ = some (.string a0_1) ∧ w'.cell? ⟨gb359, 2, none⟩ = some (.int .i64 a0_2) ∧ w'.cell? ⟨gb359, 3, none⟩ = some (.string a0_3)) (ds := []) #[false, false, false, false, false, false, false, false, false, false, false, false, false, false, false, false, false, false, false, false, false, false, false, false, false, false, false, false, false, false, false, false, false] (by kernel_rfl) rfl rfl ⟨(blk_cell BK359.out 0).trans rfl, (blk_cell BK359.out 1).trans rfl, (blk_cell BK359.out 2).trans rfl, (blk_cell BK359.out 3).trans rfl⟩ (fun hHeld => ?_); refine with_tabW caulkerlaw10_KindTells.tab10 caulkerlaw10_KindTells.bits10 (fun HT_ HW_ => ?_)
             generalize w127.drew = w128 at HO363 BK359 HB hHeld ⊢
             refine take_ (i := 0) (N := some 61) (v := ?_) (a' := ?_) #[true, false, false, false, false, false, false, false, false, false, false, false, false, false, false, false, false, false, false, false, false, false, false, false, false, false, false, false, false, false, false, false, false] rfl rfl (take_ofW HT_.out HW_.out (by kernel_rfl)) (fun _ _ _ h => h) (Or.inl ⟨by rfl, ?_⟩) hHeld ?_ ?_
             rotate_left
             ·rintro w' ⟨s0, s1, s2, s3⟩
              go_simp
              with_reducible rfl
             rotate_left
             ·simp only [Act.put, List.setIfInBounds_toArray, List.set_cons_zero, List.set_cons_succ, i64_w, i32_w]
              rfl
             refine one_ (i := 1) (N := some 62) #[true, true, false, false, false, false, false, false, false, false, false, false, false, false, false, false, false, false, false, false, false, false, false, false, false, false, false, false, false, false, false, false, false] rfl rfl (one_of HT_.out (by kernel_rfl)) (by decide) (fun K hK => ?_)
             refine goes_ Try.func27 (by kernel_rfl) rfl #[.agg #[.int .i64 a0_0, .string a0_1, .int .i64 a0_2, .string a0_3]] (by rfl) rfl rfl (by (try simp only [List.map_toArray, List.map_cons, List.map_nil]); first | done | rfl | (simp only [List.length_drop, List.length_take]; rfl)) ?_
             with_reducible refine (kind_Ref.calls k a0_0 a0_1 a0_2 a0_3 true _ A78.out).mono ?_
             rintro e w129 ⟨rfl, hb⟩
             refine ⟨_, rfl, ?_⟩
             have n0_ := Aside0.mk (Kd.R_below (pxr HO363) hb)
             have n1_ := pxk BK359 hb
             have n2_ := pxs HB hb
             clear HO363
             clear BK359
             clear HB
             have HO363 := n0_
             have BK359 := n1_
             have HB := n2_
             clear n0_ n1_ n2_
             (try clear hb)
             (try clear hb2)
             (try clear hk)
             (try clear hi)
             refine hK.out _ _ ⟨(blk_cell BK359.out 0).trans rfl, (blk_cell BK359.out 1).trans rfl, (blk_cell BK359.out 2).trans rfl, (blk_cell BK359.out 3).trans rfl⟩ (fun hHeld => ?_)
             clear hK K
             refine norm_ (a' := ?_) ?_ ?_
             rotate_left
             ·show Act.put _ (some 62) _ = _
              simp only [Act.put, List.setIfInBounds_toArray, List.set_cons_zero, List.set_cons_succ, i64_w, i32_w]
              rfl
             refine pure_ (i := 2) (N := some 63) (v := ?_) (a' := ?_) #[true, true, true, false, false, false, false, false, false, false, false, false, false, false, false, false, false, false, false, false, false, false, false, false, false, false, false, false, false, false, false, false, false] rfl rfl (any_of HT_.out (by kernel_rfl)) (fun _ _ _ h => h) (Or.inl ⟨by rfl, ?_⟩) ?_ ?_
             rotate_left
             ·intro w'
              go_simp
              with_reducible rfl
             rotate_left
             ·simp only [Act.put, List.setIfInBounds_toArray, List.set_cons_zero, List.set_cons_succ, i64_w, i32_w]
              rfl
             refine pure_ (i := 5) (N := some 66) (v := ?_) (a' := ?_) #[true, true, true, false, false, true, false, false, false, false, false, false, false, false, false, false, false, false, false, false, false, false, false, false, false, false, false, false, false, false, false, false, false] rfl rfl (any_of HT_.out (by kernel_rfl)) (fun _ _ _ h => h) (Or.inl ⟨by rfl, ?_⟩) ?_ ?_
             rotate_left
             ·intro w'
              go_simp
              with_reducible rfl
             rotate_left
             ·simp only [Act.put, List.setIfInBounds_toArray, List.set_cons_zero, List.set_cons_succ, i64_w, i32_w]
              rfl
             refine take_ (i := 3) (N := some 64) (v := ?_) (a' := ?_) #[true, true, true, true, false, true, false, false, false, false, false, false, false, false, false, false, false, false, false, false, false, false, false, false, false, false, false, false, false, false, false, false, false] rfl rfl (take_ofW HT_.out HW_.out (by kernel_rfl)) (fun _ _ _ h => h) (Or.inl ⟨by rfl, ?_⟩) hHeld ?_ ?_
             rotate_left
             ·rintro w' ⟨s0, s1, s2, s3⟩
              go_simp
              with_reducible rfl
             rotate_left
             ·simp only [Act.put, List.setIfInBounds_toArray, List.set_cons_zero, List.set_cons_succ, i64_w, i32_w]
              rfl
             refine take_ (i := 6) (N := some 67) (v := ?_) (a' := ?_) #[true, true, true, true, false, true, true, false, false, false, false, false, false, false, false, false, false, false, false, false, false, false, false, false, false, false, false, false, false, false, false, false, false] rfl rfl (take_ofW HT_.out HW_.out (by kernel_rfl)) (fun _ _ _ h => h) (Or.inl ⟨by rfl, ?_⟩) hHeld ?_ ?_
             rotate_left
             ·rintro w' ⟨s0, s1, s2, s3⟩
              go_simp
              with_reducible rfl
             rotate_left
             ·simp only [Act.put, List.setIfInBounds_toArray, List.set_cons_zero, List.set_cons_succ, i64_w, i32_w]
              rfl
             refine take_ (i := 7) (N := some 68) (v := ?_) (a' := ?_) #[true, true, true, true, false, true, true, true, false, false, false, false, false, false, false, false, false, false, false, false, false, false, false, false, false, false, false, false, false, false, false, false, false] rfl rfl (take_ofW HT_.out HW_.out (by kernel_rfl)) (fun _ _ _ h => h) (Or.inl ⟨by rfl, ?_⟩) hHeld ?_ ?_
             rotate_left
             ·rintro w' ⟨s0, s1, s2, s3⟩
              go_simp
              with_reducible rfl
             rotate_left
             ·simp only [Act.put, List.setIfInBounds_toArray, List.set_cons_zero, List.set_cons_succ, i64_w, i32_w]
              rfl
             refine one_ (i := 4) (N := some 65) #[true, true, true, true, true, true, true, true, false, false, false, false, false, false, false, false, false, false, false, false, false, false, false, false, false, false, false, false, false, false, false, false, false] rfl rfl (one_of HT_.out (by kernel_rfl)) (by decide) (fun K hK => ?_)
             refine goes_ Try.func21 (by kernel_rfl) rfl #[.agg #[.int .i64 a0_0, .string a0_1, .int .i64 a0_2, .string a0_3]] (by rfl) rfl rfl (by (try simp only [List.map_toArray, List.map_cons, List.map_nil]); first | done | rfl | (simp only [List.length_drop, List.length_take]; rfl)) ?_
             with_reducible refine (kind_Outer.calls k a0_0 a0_1 a0_2 a0_3 t382 _ A80.out).mono ?_
             rintro e w130 ⟨rfl, hb⟩
             refine ⟨_, rfl, ?_⟩
             have n0_ := Aside0.mk (Kd.R_below (pxr HO363) hb)
             have n1_ := pxk BK359 hb
             have n2_ := pxs HB hb
             clear HO363
             clear BK359
             clear HB
             have HO363 := n0_
             have BK359 := n1_
             have HB := n2_
             clear n0_ n1_ n2_
             (try clear hb)
             (try clear hb2)
             (try clear hk)
             (try clear hi)
             clear p82
             have qi82 : (0 < (a0_3.size : Int)) = True := eq_true (pxd)
             replace q82 := eq_true q82
             refine hK.out _ _ ⟨(blk_cell BK359.out 0).trans rfl, (blk_cell BK359.out 1).trans rfl, (blk_cell BK359.out 2).trans rfl, (blk_cell BK359.out 3).trans rfl⟩ (fun hHeld => ?_)
             clear hK K
             refine norm_ (a' := ?_) ?_ ?_
             rotate_left
             ·show Act.put _ (some 65) _ = _
              simp only [Act.put, List.setIfInBounds_toArray, List.set_cons_zero, List.set_cons_succ, i64_w, i32_w]
              rfl
             refine pure_ (i := 8) (N := some 69) (v := ?_) (a' := ?_) #[true, true, true, true, true, true, true, true, true, false, false, false, false, false, false, false, false, false, false, false, false, false, false, false, false, false, false, false, false, false, false, false, false] rfl rfl (any_of HT_.out (by kernel_rfl)) (fun _ _ _ h => h) (Or.inl ⟨by rfl, ?_⟩) ?_ ?_
             rotate_left
             ·intro w'
              go_simp
              with_reducible rfl
             rotate_left
             ·simp only [Act.put, List.setIfInBounds_toArray, List.set_cons_zero, List.set_cons_succ, i64_w, i32_w]
              rfl
             refine pure_ (i := 9) (N := some 70) (v := ?_) (a' := ?_) #[true, true, true, true, true, true, true, true, true, true, false, false, false, false, false, false, false, false, false, false, false, false, false, false, false, false, false, false, false, false, false, false, false] rfl rfl (any_of HT_.out (by kernel_rfl)) (fun _ _ _ h => h) (Or.inl ⟨by rfl, ?_⟩) ?_ ?_
             rotate_left
             ·intro w'
              go_simp
              with_reducible rfl
             rotate_left
             ·simp only [Act.put, List.setIfInBounds_toArray, List.set_cons_zero, List.set_cons_succ, i64_w, i32_w]
              rfl
             refine pure_ (i := 10) (N := some 71) (v := ?_) (a' := ?_) #[true, true, true, true, true, true, true, true, true, true, true, false, false, false, false, false, false, false, false, false, false, false, false, false, false, false, false, false, false, false, false, false, false] rfl rfl (any_of HT_.out (by kernel_rfl)) (fun _ _ _ h => h) (Or.inl ⟨by rfl, ?_⟩) ?_ ?_
             rotate_left
             ·intro w'
              go_simp
              with_reducible rfl
             rotate_left
             ·simp only [Act.put, List.setIfInBounds_toArray, List.set_cons_zero, List.set_cons_succ, i64_w, i32_w]
              rfl
             refine take_ (i := 11) (N := some 72) (v := ?_) (a' := ?_) #[true, true, true, true, true, true, true, true, true, true, true, true, false, false, false, false, false, false, false, false, false, false, false, false, false, false, false, false, false, false, false, false, false] rfl rfl (take_ofW HT_.out HW_.out (by kernel_rfl)) (fun _ _ _ h => h) (Or.inl ⟨by rfl, ?_⟩) hHeld ?_ ?_
             rotate_left
             ·rintro w' ⟨s0, s1, s2, s3⟩
              go_simp
              with_reducible rfl
             rotate_left
             ·simp only [Act.put, List.setIfInBounds_toArray, List.set_cons_zero, List.set_cons_succ, i64_w, i32_w]
              rfl
             refine one_ (i := 12) (N := some 73) #[true, true, true, true, true, true, true, true, true, true, true, true, true, false, false, false, false, false, false, false, false, false, false, false, false, false, false, false, false, false, false, false, false] rfl rfl (one_of HT_.out (by kernel_rfl)) (by decide) (fun K hK => ?_)
             refine goes_ Try.func28 (by kernel_rfl) rfl #[.agg #[.int .i64 a0_0, .string a0_1, .int .i64 a0_2, .string a0_3]] (by rfl) rfl rfl (by (try simp only [List.map_toArray, List.map_cons, List.map_nil]); first | done | rfl | (simp only [List.length_drop, List.length_take]; rfl)) ?_
             with_reducible refine (kind_Layers.calls k a0_0 a0_1 a0_2 a0_3 t383 _ A84.out).mono ?_
             rintro e w131 ⟨v384, rfl, ho0, hb⟩
             refine ⟨_, rfl, ?_⟩
             have n0_ := Aside0.mk (Kd.R_below (pxr HO363) hb)
             have n1_ := Aside0.mk (Kd.R_lower ho0 (below_size (pxb HB)))
             have n2_ := pxk BK359 hb
             have n3_ := pxs HB hb
             clear HO363
             clear BK359
             clear HB
             have HO363 := n0_
             have HO385 := n1_
             have BK359 := n2_
             have HB := n3_
             clear n0_ n1_ n2_ n3_
             (try clear hb)
             (try clear hb2)
             (try clear hk)
             (try clear hi)
             (try clear ho0)
             obtain ⟨Ao132, co132, eo132⟩ := Kd.R_slice HO385.out
             (first | subst eo132 | (injection eo132 with f1_ f2_ f3_; have f4_ := f1_.symm; have f5_ := f3_.symm; clear f1_ f2_ f3_; subst f4_; subst f5_))
             refine hK.out _ _ ⟨(blk_cell BK359.out 0).trans rfl, (blk_cell BK359.out 1).trans rfl, (blk_cell BK359.out 2).trans rfl, (blk_cell BK359.out 3).trans rfl⟩ (fun hHeld => ?_)
             clear hK K
             refine norm_ (a' := ?_) ?_ ?_
             rotate_left
             ·show Act.put _ (some 73) _ = _
              simp only [Act.put, List.setIfInBounds_toArray, List.set_cons_zero, List.set_cons_succ, i64_w, i32_w]
              rfl
             refine pure_ (i := 13) (N := some 74) (v := ?_) (a' := ?_) #[true, true, true, true, true, true, true, true, true, true, true, true, true, true, false, false, false, false, false, false, false, false, false, false, false, false, false, false, false, false, false, false, false] rfl rfl (any_of HT_.out (by kernel_rfl)) (fun _ _ _ h => h) (Or.inl ⟨by rfl, ?_⟩) ?_ ?_
             rotate_left
             ·intro w'
              go_simp
              with_reducible rfl
             rotate_left
             ·simp only [Act.put, List.setIfInBounds_toArray, List.set_cons_zero, List.set_cons_succ, i64_w, i32_w]
              rfl
             refine pure_ (i := 14) (N := some 75) (v := ?_) (a' := ?_) #[true, true, true, true, true, true, true, true, true, true, true, true, true, true, true, false, false, false, false, false, false, false, false, false, false, false, false, false, false, false, false, false, false] rfl rfl (any_of HT_.out (by kernel_rfl)) (fun _ _ _ h => h) (Or.inl ⟨by rfl, ?_⟩) ?_ ?_
             rotate_left
             ·intro w'
              go_simp
              with_reducible rfl
             rotate_left
             ·simp only [Act.put, List.setIfInBounds_toArray, List.set_cons_zero, List.set_cons_succ, i64_w, i32_w]
              rfl
             refine pure_ (i := 15) (N := some 76) (v := ?_) (a' := ?_) #[true, true, true, true, true, true, true, true, true, true, true, true, true, true, true, true, false, false, false, false, false, false, false, false, false, false, false, false, false, false, false, false, false] rfl rfl (any_of HT_.out (by kernel_rfl)) (fun _ _ _ h => h) (Or.inl ⟨by rfl, ?_⟩) ?_ ?_
             rotate_left
             ·intro w'
              go_simp
              with_reducible rfl
             rotate_left
             ·simp only [Act.put, List.setIfInBounds_toArray, List.set_cons_zero, List.set_cons_succ, i64_w, i32_w]
              rfl
             refine pure_ (i := 16) (N := some 77) (v := ?_) (a' := ?_) #[true, true, true, true, true, true, true, true, true, true, true, true, true, true, true, true, true, false, false, false, false, false, false, false, false, false, false, false, false, false, false, false, false] rfl rfl (any_of HT_.out (by kernel_rfl)) (fun _ _ _ h => h) (Or.inl ⟨by rfl, ?_⟩) ?_ ?_
             rotate_left
             ·intro w'
              go_simp
              with_reducible rfl
             rotate_left
             ·simp only [Act.put, List.setIfInBounds_toArray, List.set_cons_zero, List.set_cons_succ, i64_w, i32_w]
              rfl
             refine pure_ (i := 19) (N := some 80) (v := ?_) (a' := ?_) #[true, true, true, true, true, true, true, true, true, true, true, true, true, true, true, true, true, false, false, true, false, false, false, false, false, false, false, false, false, false, false, false, false] rfl rfl (any_of HT_.out (by kernel_rfl)) (fun _ _ _ h => h) (Or.inl ⟨by rfl, ?_⟩) ?_ ?_
             rotate_left
             ·intro w'
              go_simp
              with_reducible rfl
             rotate_left
             ·simp only [Act.put, List.setIfInBounds_toArray, List.set_cons_zero, List.set_cons_succ, i64_w, i32_w]
              rfl
             refine pure_ (i := 20) (N := some 81) (v := ?_) (a' := ?_) #[true, true, true, true, true, true, true, true, true, true, true, true, true, true, true, true, true, false, false, true, true, false, false, false, false, false, false, false, false, false, false, false, false] rfl rfl (any_of HT_.out (by kernel_rfl)) (fun _ _ _ h => h) (Or.inl ⟨by rfl, ?_⟩) ?_ ?_
             rotate_left
             ·intro w'
              go_simp
              with_reducible rfl
             rotate_left
             ·simp only [Act.put, List.setIfInBounds_toArray, List.set_cons_zero, List.set_cons_succ, i64_w, i32_w]
              rfl
             refine take_ (i := 17) (N := some 78) (v := ?_) (a' := ?_) #[true, true, true, true, true, true, true, true, true, true, true, true, true, true, true, true, true, true, false, true, true, false, false, false, false, false, false, false, false, false, false, false, false] rfl rfl (take_ofW HT_.out HW_.out (by kernel_rfl)) (fun _ _ _ h => h) (Or.inl ⟨by rfl, ?_⟩) hHeld ?_ ?_
             rotate_left
             ·rintro w' ⟨s0, s1, s2, s3⟩
              go_simp
              with_reducible rfl
             rotate_left
             ·simp only [Act.put, List.setIfInBounds_toArray, List.set_cons_zero, List.set_cons_succ, i64_w, i32_w]
              rfl
             refine take_ (i := 21) (N := some 82) (v := ?_) (a' := ?_) #[true, true, true, true, true, true, true, true, true, true, true, true, true, true, true, true, true, true, false, true, true, true, false, false, false, false, false, false, false, false, false, false, false] rfl rfl (take_ofW HT_.out HW_.out (by kernel_rfl)) (fun _ _ _ h => h) (Or.inl ⟨by rfl, ?_⟩) hHeld ?_ ?_
             rotate_left
             ·rintro w' ⟨s0, s1, s2, s3⟩
              go_simp
              with_reducible rfl
             rotate_left
             ·simp only [Act.put, List.setIfInBounds_toArray, List.set_cons_zero, List.set_cons_succ, i64_w, i32_w]
              rfl
             refine pure_ (i := 22) (N := some 83) (v := ?_) (a' := ?_) #[true, true, true, true, true, true, true, true, true, true, true, true, true, true, true, true, true, true, false, true, true, true, true, false, false, false, false, false, false, false, false, false, false] rfl rfl (any_of HT_.out (by kernel_rfl)) (fun _ _ _ h => h) (Or.inl ⟨by rfl, ?_⟩) ?_ ?_
             rotate_left
             ·intro w'
              go_simp
              with_reducible rfl
             rotate_left
             ·simp only [Act.put, List.setIfInBounds_toArray, List.set_cons_zero, List.set_cons_succ, i64_w, i32_w]
              rfl
             refine take_ (i := 23) (N := some 84) (v := ?_) (a' := ?_) #[true, true, true, true, true, true, true, true, true, true, true, true, true, true, true, true, true, true, false, true, true, true, true, true, false, false, false, false, false, false, false, false, false] rfl rfl (take_ofW HT_.out HW_.out (by kernel_rfl)) (fun _ _ _ h => h) (Or.inl ⟨by rfl, ?_⟩) hHeld ?_ ?_
             rotate_left
             ·rintro w' ⟨s0, s1, s2, s3⟩
              go_simp
              with_reducible rfl
             rotate_left
             ·simp only [Act.put, List.setIfInBounds_toArray, List.set_cons_zero, List.set_cons_succ, i64_w, i32_w]
              rfl
             refine one_ (i := 18) (N := some 79) #[true, true, true, true, true, true, true, true, true, true, true, true, true, true, true, true, true, true, true, true, true, true, true, true, false, false, false, false, false, false, false, false, false] rfl rfl (one_of HT_.out (by kernel_rfl)) (by decide) (fun K hK => ?_)
             refine goes_ Try.func29 (by kernel_rfl) rfl #[.agg #[.int .i64 a0_0, .string a0_1, .int .i64 a0_2, .string a0_3]] (by rfl) rfl rfl (by (try simp only [List.map_toArray, List.map_cons, List.map_nil]); first | done | rfl | (simp only [List.length_drop, List.length_take]; rfl)) ?_
             with_reducible refine (kind_Show.calls k a0_0 a0_1 a0_2 a0_3 t386 _ A86.out).mono ?_
             rintro e w133 ⟨rfl, hb⟩
             refine ⟨_, rfl, ?_⟩
             have n0_ := Aside0.mk (Kd.R_below (pxr HO363) hb)
             have n1_ := Aside0.mk (Kd.R_below (pxr HO385) hb)
             have n2_ := pxk BK359 hb
             have n3_ := pxs HB hb
             clear HO363
             clear HO385
             clear BK359
             clear HB
             have HO363 := n0_
             have HO385 := n1_
             have BK359 := n2_
             have HB := n3_
             clear n0_ n1_ n2_ n3_
             (try clear hb)
             (try clear hb2)
             (try clear hk)
             (try clear hi)
             refine hK.out _ _ ⟨(blk_cell BK359.out 0).trans rfl, (blk_cell BK359.out 1).trans rfl, (blk_cell BK359.out 2).trans rfl, (blk_cell BK359.out 3).trans rfl⟩ (fun hHeld => ?_)
             clear hK K
             refine norm_ (a' := ?_) ?_ ?_
             rotate_left
             ·show Act.put _ (some 79) _ = _
              simp only [Act.put, List.setIfInBounds_toArray, List.set_cons_zero, List.set_cons_succ, i64_w, i32_w]
              rfl
             refine pure_ (i := 24) (N := some 85) (v := ?_) (a' := ?_) #[true, true, true, true, true, true, true, true, true, true, true, true, true, true, true, true, true, true, true, true, true, true, true, true, true, false, false, false, false, false, false, false, false] rfl rfl (any_of HT_.out (by kernel_rfl)) (fun _ _ _ h => h) (Or.inl ⟨by rfl, ?_⟩) ?_ ?_
             rotate_left
             ·intro w'
              go_simp
              with_reducible rfl
             rotate_left
             ·simp only [Act.put, List.setIfInBounds_toArray, List.set_cons_zero, List.set_cons_succ, i64_w, i32_w]
              rfl
             refine pure_ (i := 25) (N := some 86) (v := ?_) (a' := ?_) #[true, true, true, true, true, true, true, true, true, true, true, true, true, true, true, true, true, true, true, true, true, true, true, true, true, true, false, false, false, false, false, false, false] rfl rfl (any_of HT_.out (by kernel_rfl)) (fun _ _ _ h => h) (Or.inl ⟨by rfl, ?_⟩) ?_ ?_
             rotate_left
             ·intro w'
              go_simp
              with_reducible rfl
             rotate_left
             ·simp only [Act.put, List.setIfInBounds_toArray, List.set_cons_zero, List.set_cons_succ, i64_w, i32_w]
              rfl
             refine pure_ (i := 26) (N := some 87) (v := ?_) (a' := ?_) #[true, true, true, true, true, true, true, true, true, true, true, true, true, true, true, true, true, true, true, true, true, true, true, true, true, true, true, false, false, false, false, false, false] rfl rfl (any_of HT_.out (by kernel_rfl)) (fun _ _ _ h => h) (Or.inl ⟨by rfl, ?_⟩) ?_ ?_
             rotate_left
             ·intro w'
              go_simp
              with_reducible rfl
             rotate_left
             ·simp only [Act.put, List.setIfInBounds_toArray, List.set_cons_zero, List.set_cons_succ, i64_w, i32_w]
              rfl
             refine take_ (i := 27) (N := some 88) (v := ?_) (a' := ?_) #[true, true, true, true, true, true, true, true, true, true, true, true, true, true, true, true, true, true, true, true, true, true, true, true, true, true, true, true, false, false, false, false, false] rfl rfl (take_ofW HT_.out HW_.out (by kernel_rfl)) (fun _ _ _ h => h) (Or.inl ⟨by rfl, ?_⟩) hHeld ?_ ?_
             rotate_left
             ·rintro w' ⟨s0, s1, s2, s3⟩
              go_simp
              with_reducible rfl
             rotate_left
             ·simp only [Act.put, List.setIfInBounds_toArray, List.set_cons_zero, List.set_cons_succ, i64_w, i32_w]
              rfl
             refine take_ (i := 29) (N := some 90) (v := ?_) (a' := ?_) #[true, true, true, true, true, true, true, true, true, true, true, true, true, true, true, true, true, true, true, true, true, true, true, true, true, true, true, true, false, true, false, false, false] rfl rfl (take_ofW HT_.out HW_.out (by kernel_rfl)) (fun _ _ _ h => h) (Or.inl ⟨by rfl, ?_⟩) hHeld ?_ ?_
             rotate_left
             ·rintro w' ⟨s0, s1, s2, s3⟩
              go_simp
              with_reducible rfl
             rotate_left
             ·simp only [Act.put, List.setIfInBounds_toArray, List.set_cons_zero, List.set_cons_succ, i64_w, i32_w]
              rfl
             refine one_ (i := 28) (N := some 89) #[true, true, true, true, true, true, true, true, true, true, true, true, true, true, true, true, true, true, true, true, true, true, true, true, true, true, true, true, true, true, false, false, false] rfl rfl (one_of HT_.out (by kernel_rfl)) (by decide) (fun K hK => ?_)
             refine goes_ Try.func22 (by kernel_rfl) rfl #[.agg #[.int .i64 a0_0, .string a0_1, .int .i64 a0_2, .string a0_3]] (by rfl) rfl rfl (by (try simp only [List.map_toArray, List.map_cons, List.map_nil]); first | done | rfl | (simp only [List.length_drop, List.length_take]; rfl)) ?_
             with_reducible refine (kind_Bare.calls k a0_0 a0_1 a0_2 a0_3 t391 t392 t393 t394 _ A113.out).mono ?_
             rintro e w134 ⟨rfl, hb⟩
             refine ⟨_, rfl, ?_⟩
             have n0_ := Aside0.mk (Kd.R_below (pxr HO363) hb)
             have n1_ := Aside0.mk (Kd.R_below (pxr HO385) hb)
             have n2_ := pxk BK359 hb
             have n3_ := pxs HB hb
             clear HO363
             clear HO385
             clear BK359
             clear HB
             have HO363 := n0_
             have HO385 := n1_
             have BK359 := n2_
             have HB := n3_
             clear n0_ n1_ n2_ n3_
             (try clear hb)
             (try clear hb2)
             (try clear hk)
             (try clear hi)
             refine hK.out _ _ ⟨(blk_cell BK359.out 0).trans rfl, (blk_cell BK359.out 1).trans rfl, (blk_cell BK359.out 2).trans rfl, (blk_cell BK359.out 3).trans rfl⟩ (fun hHeld => ?_)
             clear hK K
             refine norm_ (a' := ?_) ?_ ?_
             rotate_left
             ·show Act.put _ (some 89) _ = _
              simp only [Act.put, List.setIfInBounds_toArray, List.set_cons_zero, List.set_cons_succ, i64_w, i32_w]
              rfl
             refine pure_ (i := 30) (N := some 91) (v := ?_) (a' := ?_) #[true, true, true, true, true, true, true, true, true, true, true, true, true, true, true, true, true, true, true, true, true, true, true, true, true, true, true, true, true, true, true, false, false] rfl rfl (any_of HT_.out (by kernel_rfl)) (fun _ _ _ h => h) (Or.inl ⟨by rfl, ?_⟩) ?_ ?_
             rotate_left
             ·intro w'
              go_simp
              with_reducible rfl
             rotate_left
             ·simp only [Act.put, List.setIfInBounds_toArray, List.set_cons_zero, List.set_cons_succ, i64_w, i32_w]
              rfl
             refine pure_ (i := 31) (N := some 92) (v := ?_) (a' := ?_) #[true, true, true, true, true, true, true, true, true, true, true, true, true, true, true, true, true, true, true, true, true, true, true, true, true, true, true, true, true, true, true, true, false] rfl rfl (any_of HT_.out (by kernel_rfl)) (fun _ _ _ h => h) (Or.inl ⟨by rfl, ?_⟩) ?_ ?_
             rotate_left
             ·intro w'
              go_simp
              with_reducible rfl
             rotate_left
             ·simp only [Act.put, List.setIfInBounds_toArray, List.set_cons_zero, List.set_cons_succ, i64_w, i32_w]
              rfl
             refine pure_ (i := 32) (N := some 2) (v := ?_) (a' := ?_) #[true, true, true, true, true, true, true, true, true, true, true, true, true, true, true, true, true, true, true, true, true, true, true, true, true, true, true, true, true, true, true, true, true] rfl rfl (any_of HT_.out (by kernel_rfl)) (fun _ _ _ h => h) (Or.inl ⟨by rfl, ?_⟩) ?_ ?_
             rotate_left
             ·intro w'
              go_simp
              with_reducible rfl
             rotate_left
             ·simp only [Act.put, List.setIfInBounds_toArray, List.set_cons_zero, List.set_cons_succ, i64_w, i32_w]
              rfl
             refine done_ (done_of HT_.out (by kernel_rfl)) ?_
             try go_wp2
             go_ret
             exact ⟨by first | rfl | (simp [errW_none, errW_some] <;> rfl) | (simp [*, errW_none, errW_some] <;> rfl) | (simp [*, pxbeq, pxbne, errW_none, errW_some]; done), pxb HB⟩
            ·rw [if_neg c112] at H
             exact absurd H (by simp)
           ·rw [if_neg c111] at H
            exact absurd H (by simp)
         ·rw [if_neg c85] at H
          exact absurd H (by simp)
        ·rw [if_neg c83] at H
         exact absurd H (by simp)
       ·rw [if_neg c81] at H
        exact absurd H (by simp)
      ·replace c79 := Bool.eq_false_iff.mpr c79
       subst c79
       have H1 : (none) = some r := by rw [if_neg (show ¬ (false = true) by decide)] at H; exact H
       clear H
       have H := H1
       clear H1
       exact absurd H (by simp)
    ·replace c10 := Bool.eq_false_iff.mpr c10
     subst c10
     have H1 : ((kind_Ref.f k a0_0 a0_1 a0_2 a0_3).bind fun t368 => (if t368 = true then (none) else ((kind_Outer.f k a0_0 a0_1 a0_2 a0_3).bind fun t369 => (if t369 = 32 then ((kind_Layers.f k a0_0 a0_1 a0_2 a0_3).bind fun t370 => (if (t370.length : Int) = 0 then ((kind_Show.f k a0_0 a0_1 a0_2 a0_3).bind fun t373 => (if t373.toList = ([] : List UInt8) then ((kind_Bare.f k a0_0 a0_1 a0_2 a0_3).bind fun bt374 => (if (bt374.1 == a0_0 && (bt374.2.1.toList == a0_1.toList && (bt374.2.2.1 == a0_2 && (bt374.2.2.2.toList == a0_3.toList)))) = true then ((kind_Number.f k a0_0 a0_1 a0_2 a0_3).bind fun t378 => (if t378 = true then (none) else ((kind_Is.f k a0_0 a0_1 a0_2 a0_3 a0_0).bind fun t379 => (some (!t379))))) else (none))) else (none))) else (none))) else (none))))) = some r := by rw [if_neg (show ¬ (false = true) by decide)] at H; exact H
     clear H
     have H := H1
     clear H1
     replace H := Option.bind_eq_some_iff.mp H
     obtain ⟨t368, A1350, H⟩ := H
     replace H : (if t368 = true then (none) else ((kind_Outer.f k a0_0 a0_1 a0_2 a0_3).bind fun t369 => (if t369 = 32 then ((kind_Layers.f k a0_0 a0_1 a0_2 a0_3).bind fun t370 => (if (t370.length : Int) = 0 then ((kind_Show.f k a0_0 a0_1 a0_2 a0_3).bind fun t373 => (if t373.toList = ([] : List UInt8) then ((kind_Bare.f k a0_0 a0_1 a0_2 a0_3).bind fun bt374 => (if (bt374.1 == a0_0 && (bt374.2.1.toList == a0_1.toList && (bt374.2.2.1 == a0_2 && (bt374.2.2.2.toList == a0_3.toList)))) = true then ((kind_Number.f k a0_0 a0_1 a0_2 a0_3).bind fun t378 => (if t378 = true then (none) else ((kind_Is.f k a0_0 a0_1 a0_2 a0_3 a0_0).bind fun t379 => (some (!t379))))) else (none))) else (none))) else (none))) else (none)))) = some r := H
     have A135 := Aside0.mk A1350
     clear A1350
     by_cases c136 : t368 = true
     ·subst c136
      have H1 : (none) = some r := by rw [if_pos rfl] at H; exact H
      clear H
      have H := H1
      clear H1
      exact absurd H (by simp)
     ·replace c136 := Bool.eq_false_iff.mpr c136
      subst c136
      have H1 : ((kind_Outer.f k a0_0 a0_1 a0_2 a0_3).bind fun t369 => (if t369 = 32 then ((kind_Layers.f k a0_0 a0_1 a0_2 a0_3).bind fun t370 => (if (t370.length : Int) = 0 then ((kind_Show.f k a0_0 a0_1 a0_2 a0_3).bind fun t373 => (if t373.toList = ([] : List UInt8) then ((kind_Bare.f k a0_0 a0_1 a0_2 a0_3).bind fun bt374 => (if (bt374.1 == a0_0 && (bt374.2.1.toList == a0_1.toList && (bt374.2.2.1 == a0_2 && (bt374.2.2.2.toList == a0_3.toList)))) = true then ((kind_Number.f k a0_0 a0_1 a0_2 a0_3).bind fun t378 => (if t378 = true then (none) else ((kind_Is.f k a0_0 a0_1 a0_2 a0_3 a0_0).bind fun t379 => (some (!t379))))) else (none))) else (none))) else (none))) else (none))) = some r := by rw [if_neg (show ¬ (false = true) by decide)] at H; exact H
      clear H
      have H := H1
      clear H1
      replace H := Option.bind_eq_some_iff.mp H
      obtain ⟨t369, A1370, H⟩ := H
      replace H : (if t369 = 32 then ((kind_Layers.f k a0_0 a0_1 a0_2 a0_3).bind fun t370 => (if (t370.length : Int) = 0 then ((kind_Show.f k a0_0 a0_1 a0_2 a0_3).bind fun t373 => (if t373.toList = ([] : List UInt8) then ((kind_Bare.f k a0_0 a0_1 a0_2 a0_3).bind fun bt374 => (if (bt374.1 == a0_0 && (bt374.2.1.toList == a0_1.toList && (bt374.2.2.1 == a0_2 && (bt374.2.2.2.toList == a0_3.toList)))) = true then ((kind_Number.f k a0_0 a0_1 a0_2 a0_3).bind fun t378 => (if t378 = true then (none) else ((kind_Is.f k a0_0 a0_1 a0_2 a0_3 a0_0).bind fun t379 => (some (!t379))))) else (none))) else (none))) else (none))) else (none)) = some r := H
      have A137 := Aside0.mk A1370
      clear A1370
      by_cases c138 : t369 = 32
      ·rw [if_pos c138] at H
       have c138b0 : (t369 == 32) = true := beq_iff_eq.mpr c138
       have c138b1 : (t369 != 32) = false := bne_eq_false_iff_eq.mpr c138
       clear c138
       replace H := Option.bind_eq_some_iff.mp H
       obtain ⟨t370, A1390, H⟩ := H
       replace H : (if (t370.length : Int) = 0 then ((kind_Show.f k a0_0 a0_1 a0_2 a0_3).bind fun t373 => (if t373.toList = ([] : List UInt8) then ((kind_Bare.f k a0_0 a0_1 a0_2 a0_3).bind fun bt374 => (if (bt374.1 == a0_0 && (bt374.2.1.toList == a0_1.toList && (bt374.2.2.1 == a0_2 && (bt374.2.2.2.toList == a0_3.toList)))) = true then ((kind_Number.f k a0_0 a0_1 a0_2 a0_3).bind fun t378 => (if t378 = true then (none) else ((kind_Is.f k a0_0 a0_1 a0_2 a0_3 a0_0).bind fun t379 => (some (!t379))))) else (none))) else (none))) else (none)) = some r := H
       have A139 := Aside0.mk A1390
       clear A1390
       by_cases c140 : (t370.length : Int) = 0
       ·rw [if_pos c140] at H
        have c140b0 : ((t370.length : Int) == 0) = true := beq_iff_eq.mpr c140
        have c140b1 : ((t370.length : Int) != 0) = false := bne_eq_false_iff_eq.mpr c140
        clear c140
        replace H := Option.bind_eq_some_iff.mp H
        obtain ⟨t373, A1410, H⟩ := H
        replace H : (if t373.toList = ([] : List UInt8) then ((kind_Bare.f k a0_0 a0_1 a0_2 a0_3).bind fun bt374 => (if (bt374.1 == a0_0 && (bt374.2.1.toList == a0_1.toList && (bt374.2.2.1 == a0_2 && (bt374.2.2.2.toList == a0_3.toList)))) = true then ((kind_Number.f k a0_0 a0_1 a0_2 a0_3).bind fun t378 => (if t378 = true then (none) else ((kind_Is.f k a0_0 a0_1 a0_2 a0_3 a0_0).bind fun t379 => (some (!t379))))) else (none))) else (none)) = some r := H
        have A141 := Aside0.mk A1410
        clear A1410
        by_cases c142 : t373.toList = ([] : List UInt8)
        ·rw [if_pos c142] at H
         have c142b0 : (t373.toList == ([] : List UInt8)) = true := beq_iff_eq.mpr c142
         (try (have c142b0e : (t373.toList.isEmpty) = true := by simpa only [pxbeq, pxbne] using c142b0))
         have c142b1 : (t373.toList != ([] : List UInt8)) = false := bne_eq_false_iff_eq.mpr c142
         (try (have c142b1e : ((!t373.toList.isEmpty)) = false := by simpa only [pxbeq, pxbne] using c142b1))
         clear c142
         replace H := Option.bind_eq_some_iff.mp H
         obtain ⟨⟨t374, t375, t376, t377⟩, A1430, H⟩ := H
         replace H : (if (t374 == a0_0 && (t375.toList == a0_1.toList && (t376 == a0_2 && (t377.toList == a0_3.toList)))) = true then ((kind_Number.f k a0_0 a0_1 a0_2 a0_3).bind fun t378 => (if t378 = true then (none) else ((kind_Is.f k a0_0 a0_1 a0_2 a0_3 a0_0).bind fun t379 => (some (!t379))))) else (none)) = some r := H
         have A143 := Aside0.mk A1430
         clear A1430
         by_cases c144 : (t374 == a0_0 && (t375.toList == a0_1.toList && (t376 == a0_2 && (t377.toList == a0_3.toList)))) = true
         ·rw [if_pos c144] at H
          have c144b0 : (t374 == a0_0 && (t375.toList == a0_1.toList && (t376 == a0_2 && (t377.toList == a0_3.toList)))) = true := c144
          (try (have c144b1 : decide (t374 = a0_0 && (t375.toList == a0_1.toList && (t376 == a0_2 && (t377.toList == a0_3.toList)))) = true := by simpa using c144))
          (try (have c144b2 : (t374 == a0_0 && (t375.toList == a0_1.toList && (t376 == a0_2 && (t377.toList == a0_3.toList)))) = true := by simpa using c144))
          clear c144
          replace H := Option.bind_eq_some_iff.mp H
          obtain ⟨t378, A1450, H⟩ := H
          replace H : (if t378 = true then (none) else ((kind_Is.f k a0_0 a0_1 a0_2 a0_3 a0_0).bind fun t379 => (some (!t379)))) = some r := H
          have A145 := Aside0.mk A1450
          clear A1450
          by_cases c146 : t378 = true
          ·subst c146
           have H1 : (none) = some r := by rw [if_pos rfl] at H; exact H
           clear H
           have H := H1
           clear H1
           exact absurd H (by simp)
          ·replace c146 := Bool.eq_false_iff.mpr c146
           subst c146
           have H1 : ((kind_Is.f k a0_0 a0_1 a0_2 a0_3 a0_0).bind fun t379 => (some (!t379))) = some r := by rw [if_neg (show ¬ (false = true) by decide)] at H; exact H
           clear H
           have H := H1
           clear H1
           replace H := Option.bind_eq_some_iff.mp H
           obtain ⟨t379, A1470, H⟩ := H
           replace H : (some (!t379)) = some r := H
           have A147 := Aside0.mk A1470
           clear A1470
           obtain rfl := Option.some.inj H
           go_enter Try.func8, Try.ntmps8
           try go_wp2_with (first | ((with_reducible refine gate_dst (N := 1) rfl ?_); refine box_event ?hg (N := 1) ?hd (cs := #[.int .i64 a0_0, .string a0_1, .int .i64 a0_2, .string a0_3]) (t := 23) ?hr ?_; (case hd => rfl); (case hg => rfl); (case hr => first | (go_simp; done) | (go_simp; rfl)); intro gb359 hg w148 hbox hb; have BK359 := Aside0.mk (hbox); have GW359 := pxw HB hg; have GE359 := pxw HB hg; replace HB := pxs HB hb; clear hb hbox hg) | ((with_reducible refine gate_callee (f := 9) rfl ?_); refine goesL_ (some 7) rfl rfl Try.func9 (by kernel_rfl) rfl #[] rfl (by (try simp only [List.map_toArray, List.map_cons, List.map_nil]); first | done | rfl | (simp only [List.length_drop, List.length_take]; rfl)) ?_; (with_reducible refine (caulkerlaw10_sorts.calls k  true _ A2.out).mono ?_); rintro e w149 ⟨rfl, hb⟩; refine ⟨_, rfl, ?_⟩; replace BK359 := pxk BK359 hb; replace HB := pxs HB hb; (try clear hb); (try clear hb2); (try clear hk); (try clear hi); obtain ⟨hcz150_0, hcz150_1, hcz150_2, hcz150_3, hfz150_0, hfz150_1, hfz150_2, hfz150_3⟩ := pxf4 BK359) | ((with_reducible refine gate_dst (N := 10) rfl ?_); refine Kd.R_lit k23 _ 23 ?hg (N := 10) ?hd (xs := ([(⟨a0_0, a0_1, a0_2, a0_3⟩ : S23)] : List (S23))) (inner := [.int .i64 a0_0, .string a0_1, .int .i64 a0_2, .string a0_3]) (ok := fun _ => True) (okp := fun _ => True) ?hr ?hp (fun _ hk => hk) trivial (Below.refl _ _) (Nat.le_refl _) (by simp) ?_; (case hd => rfl); (case hg => rfl); (case hr => first | (go_simp; done) | (go_simp; rfl)); (case hp => exact (Reps.c4 (show Kd.M k23 _ _ _ (⟨a0_0, a0_1, a0_2, a0_3⟩ : S23) [.int .i64 a0_0, .string a0_1, .int .i64 a0_2, .string a0_3] from (k23_mkM _ _ _ (⟨a0_0, a0_1, a0_2, a0_3⟩ : S23) )) (Reps.none _ _))); intro v362 w151 ho152 hb hg_ hnew_; clear hg_ hnew_; (first | rw [← Ny361.out] at ho152 | (simp only [Int.reduceToNat] at ho152; rw [← Ny361.out] at ho152)); have HO363 := Aside0.mk (Kd.R_lower (Kd.R_newB ho152 (g := gb359) (o := .cells #[.int .i64 a0_0, .string a0_1, .int .i64 a0_2, .string a0_3] 23 (0, 0)) (pxq BK359)) (below_size (pxb HB))); replace BK359 := pxk BK359 hb; replace HB := pxs HB hb; clear hb ho152; obtain ⟨Ao153, co153, eo153⟩ := Kd.R_slice HO363.out; subst eo153) | ((with_reducible refine gate_callee (f := 10) rfl ?_); refine goesL_ (some 11) rfl rfl Try.func10 (by kernel_rfl) rfl #[.slice Ao153 y361.length co153] rfl (by (try simp only [List.map_toArray, List.map_cons, List.map_nil]); first | done | rfl | (simp only [List.length_drop, List.length_take]; rfl)) ?_; (with_reducible refine (caulkerlaw10_small.calls k _ _ y361 true _ ?side1 ?side2 A4.out).mono ?_); (case side1 => repeat (first | exact (Kd.R_reads' HO363.out).2.2 | (with_reducible refine Kd.C_alloc ?_ _) | (with_reducible refine Kd.C_drewN ?_ _) | (with_reducible refine Kd.C_drew ?_))); (case side2 => exact (Kd.R_reads' HO363.out).2.1); rintro e w154 ⟨rfl, hb⟩; refine ⟨_, rfl, ?_⟩; replace HO363 := Aside0.mk (Kd.R_below (pxr HO363) hb); replace BK359 := pxk BK359 hb; replace HB := pxs HB hb; (try clear hb); (try clear hb2); (try clear hk); (try clear hi)))
           have n0_ := Aside0.mk (Kd.R_drew HO363.out)
           have n1_ := Aside0.mk (blk_drew BK359.out)
           have n2_ := Aside0.mk (below_drew1 HB.out)
           clear HO363
           clear BK359
           clear HB
           have HO363 := n0_
           have BK359 := n1_
           have HB := n2_
           clear n0_ n1_ n2_
           refine start_ (n := 5) (S := fun w' => w'.cell? ⟨gb359, 0, none⟩ = some (.int .i64 a0_0) ∧ w'.cell? ⟨gb359, 1, none⟩ = some (.string a0_1) ∧ w'.cell? ⟨gb359, 2, none⟩ = some (.int .i64 a0_2) ∧ w'.cell? ⟨gb359, 3, none⟩ = some (.string a0_3)) (ds := []) #[false, false, false, false, false] (by kernel_rfl) rfl rfl ⟨(blk_cell BK359.out 0).trans rfl, (blk_cell BK359.out 1).trans rfl, (blk_cell BK359.out 2).trans rfl, (blk_cell BK359.out 3).trans rfl⟩ (fun hHeld => ?_)
           generalize w154.drew = w155 at HO363 BK359 HB hHeld ⊢
           refine take_ (i := 0) (N := some 13) (v := ?_) (a' := ?_) #[true, false, false, false, false] rfl rfl (by kernel_rfl) (fun _ _ _ h => h) (Or.inl ⟨by rfl, ?_⟩) hHeld ?_ ?_
           rotate_left
           ·rintro w' ⟨s0, s1, s2, s3⟩
            go_simp
            with_reducible rfl
           rotate_left
           ·simp only [Act.put, List.setIfInBounds_toArray, List.set_cons_zero, List.set_cons_succ, i64_w, i32_w]
            rfl
           refine take_ (i := 2) (N := some 15) (v := ?_) (a' := ?_) #[true, false, true, false, false] rfl rfl (by kernel_rfl) (fun _ _ _ h => h) (Or.inl ⟨by rfl, ?_⟩) hHeld ?_ ?_
           rotate_left
           ·rintro w' ⟨s0, s1, s2, s3⟩
            go_simp
            with_reducible rfl
           rotate_left
           ·simp only [Act.put, List.setIfInBounds_toArray, List.set_cons_zero, List.set_cons_succ, i64_w, i32_w]
            rfl
           refine one_ (i := 1) (N := some 14) #[true, true, true, false, false] rfl rfl (by kernel_rfl) (by decide) (fun K hK => ?_)
           refine goes_ Try.func26 (by kernel_rfl) rfl #[.agg #[.int .i64 a0_0, .string a0_1, .int .i64 a0_2, .string a0_3]] (by rfl) rfl rfl (by (try simp only [List.map_toArray, List.map_cons, List.map_nil]); first | done | rfl | (simp only [List.length_drop, List.length_take]; rfl)) ?_
           with_reducible refine (kind_Right.calls k a0_0 a0_1 a0_2 a0_3 t365 _ A6.out).mono ?_
           rintro e w156 ⟨rfl, hb⟩
           refine ⟨_, rfl, ?_⟩
           have n0_ := Aside0.mk (Kd.R_below (pxr HO363) hb)
           have n1_ := pxk BK359 hb
           have n2_ := pxs HB hb
           clear HO363
           clear BK359
           clear HB
           have HO363 := n0_
           have BK359 := n1_
           have HB := n2_
           clear n0_ n1_ n2_
           (try clear hb)
           (try clear hb2)
           (try clear hk)
           (try clear hi)
           refine hK.out _ _ ⟨(blk_cell BK359.out 0).trans rfl, (blk_cell BK359.out 1).trans rfl, (blk_cell BK359.out 2).trans rfl, (blk_cell BK359.out 3).trans rfl⟩ (fun hHeld => ?_)
           clear hK K
           refine norm_ (a' := ?_) ?_ ?_
           rotate_left
           ·show Act.put _ (some 14) _ = _
            simp only [Act.put, List.setIfInBounds_toArray, List.set_cons_zero, List.set_cons_succ, i64_w, i32_w]
            rfl
           refine one_ (i := 3) (N := some 16) #[true, true, true, true, false] rfl rfl (by kernel_rfl) (by decide) (fun K hK => ?_)
           refine goes_ Try.func11 (by kernel_rfl) rfl #[.agg #[.int .i64 a0_0, .string a0_1, .int .i64 a0_2, .string a0_3]] (by rfl) rfl rfl (by (try simp only [List.map_toArray, List.map_cons, List.map_nil]); first | done | rfl | (simp only [List.length_drop, List.length_take]; rfl)) ?_
           with_reducible refine (caulkerlaw10_right.calls k a0_0 a0_1 a0_2 a0_3 t366 _ A7.out).mono ?_
           rintro e w157 ⟨rfl, hb⟩
           refine ⟨_, rfl, ?_⟩
           have n0_ := Aside0.mk (Kd.R_below (pxr HO363) hb)
           have n1_ := pxk BK359 hb
           have n2_ := pxs HB hb
           clear HO363
           clear BK359
           clear HB
           have HO363 := n0_
           have BK359 := n1_
           have HB := n2_
           clear n0_ n1_ n2_
           (try clear hb)
           (try clear hb2)
           (try clear hk)
           (try clear hi)
           refine hK.out _ _ ⟨(blk_cell BK359.out 0).trans rfl, (blk_cell BK359.out 1).trans rfl, (blk_cell BK359.out 2).trans rfl, (blk_cell BK359.out 3).trans rfl⟩ (fun hHeld => ?_)
           clear hK K
           refine norm_ (a' := ?_) ?_ ?_
           rotate_left
           ·show Act.put _ (some 16) _ = _
            simp only [Act.put, List.setIfInBounds_toArray, List.set_cons_zero, List.set_cons_succ, i64_w, i32_w]
            rfl
           refine pure_ (i := 4) (N := some 17) (v := ?_) (a' := ?_) #[true, true, true, true, true] rfl rfl (by kernel_rfl) (fun _ _ _ h => h) (Or.inl ⟨by rfl, ?_⟩) ?_ ?_
           rotate_left
           ·intro w'
            go_simp
            with_reducible rfl
           rotate_left
           ·simp only [Act.put, List.setIfInBounds_toArray, List.set_cons_zero, List.set_cons_succ, i64_w, i32_w]
            rfl
           refine done_ (by kernel_rfl) ?_
           have hcz158_0 : w157.cell? ⟨gb359, 0, none⟩ = some (.int .i64 a0_0) := (blk_cell BK359.out 0).trans rfl
           have hcz158_1 : w157.cell? ⟨gb359, 1, none⟩ = some (.string a0_1) := (blk_cell BK359.out 1).trans rfl
           have hcz158_2 : w157.cell? ⟨gb359, 2, none⟩ = some (.int .i64 a0_2) := (blk_cell BK359.out 2).trans rfl
           have hcz158_3 : w157.cell? ⟨gb359, 3, none⟩ = some (.string a0_3) := (blk_cell BK359.out 3).trans rfl
           have hfz158_0 := blk_frozen BK359.out 0
           have hfz158_1 := blk_frozen BK359.out 1
           have hfz158_2 := blk_frozen BK359.out 2
           have hfz158_3 := blk_frozen BK359.out 3
           try go_wp2_with (first | ((with_reducible refine gate_callee (f := 11) rfl ?_); refine goesL_ (some 19) rfl rfl Try.func11 (by kernel_rfl) rfl #[.agg #[.int .i64 a0_0, .string a0_1, .int .i64 a0_2, .string a0_3]] rfl (by (try simp only [List.map_toArray, List.map_cons, List.map_nil]); first | done | rfl | (simp only [List.length_drop, List.length_take]; rfl)) ?_; (with_reducible refine (caulkerlaw10_right.calls k a0_0 a0_1 a0_2 a0_3 false _ A9.out).mono ?_); rintro e w159 ⟨rfl, hb⟩; refine ⟨_, rfl, ?_⟩; replace HO363 := Aside0.mk (Kd.R_below (pxr HO363) hb); replace BK359 := pxk BK359 hb; replace HB := pxs HB hb; (try clear hb); (try clear hb2); (try clear hk); (try clear hi)))
           have n0_ := Aside0.mk (Kd.R_drew HO363.out)
           have n1_ := Aside0.mk (blk_drew BK359.out)
           have n2_ := Aside0.mk (below_drew1 HB.out)
           clear HO363
           clear BK359
           clear HB
           have HO363 := n0_
           have BK359 := n1_
           have HB := n2_
           clear n0_ n1_ n2_
           refine start_ (n := 38) (S := fun w' => w'.cell? ⟨gb359, 0, none⟩ = some (.int .i64 a0_0) ∧ w'.cell? ⟨gb359, 1, none⟩ = some (.string a0_1) ∧ w'.cell? ⟨gb359, 2, none⟩ = some (.int .i64 a0_2) ∧ w'.cell? ⟨gb359, 3, none⟩ = some (.string a0_3)) (ds := []) #[false, false, false, false, false, false, false, false, false, false, false, false, false, false, false, false, false, false, false, false, false, false, false, false, false, false, false, false, false, false, false, false, false, false, false, false, false, false] (by kernel_rfl) rfl rfl ⟨(blk_cell BK359.out 0).trans rfl, (blk_cell BK359.out 1).trans rfl, (blk_cell BK359.out 2).trans rfl, (blk_cell BK359.out 3).trans rfl⟩ (fun hHeld => ?_); refine with_tabW caulkerlaw10_KindTells.tab8 caulkerlaw10_KindTells.bits8 (fun HT_ HW_ => ?_)
           generalize w159.drew = w160 at HO363 BK359 HB hHeld ⊢
           refine take_ (i := 0) (N := some 21) (v := ?_) (a' := ?_) #[true, false, false, false, false, false, false, false, false, false, false, false, false, false, false, false, false, false, false, false, false, false, false, false, false, false, false, false, false, false, false, false, false, false, false, false, false, false] rfl rfl (take_ofW HT_.out HW_.out (by kernel_rfl)) (fun _ _ _ h => h) (Or.inl ⟨by rfl, ?_⟩) hHeld ?_ ?_
           rotate_left
           ·rintro w' ⟨s0, s1, s2, s3⟩
            go_simp
            with_reducible rfl
           rotate_left
           ·simp only [Act.put, List.setIfInBounds_toArray, List.set_cons_zero, List.set_cons_succ, i64_w, i32_w]
            rfl
           refine one_ (i := 1) (N := some 22) #[true, true, false, false, false, false, false, false, false, false, false, false, false, false, false, false, false, false, false, false, false, false, false, false, false, false, false, false, false, false, false, false, false, false, false, false, false, false] rfl rfl (one_of HT_.out (by kernel_rfl)) (by decide) (fun K hK => ?_)
           refine goes_ Try.func27 (by kernel_rfl) rfl #[.agg #[.int .i64 a0_0, .string a0_1, .int .i64 a0_2, .string a0_3]] (by rfl) rfl rfl (by (try simp only [List.map_toArray, List.map_cons, List.map_nil]); first | done | rfl | (simp only [List.length_drop, List.length_take]; rfl)) ?_
           with_reducible refine (kind_Ref.calls k a0_0 a0_1 a0_2 a0_3 false _ A135.out).mono ?_
           rintro e w161 ⟨rfl, hb⟩
           refine ⟨_, rfl, ?_⟩
           have n0_ := Aside0.mk (Kd.R_below (pxr HO363) hb)
           have n1_ := pxk BK359 hb
           have n2_ := pxs HB hb
           clear HO363
           clear BK359
           clear HB
           have HO363 := n0_
           have BK359 := n1_
           have HB := n2_
           clear n0_ n1_ n2_
           (try clear hb)
           (try clear hb2)
           (try clear hk)
           (try clear hi)
           refine hK.out _ _ ⟨(blk_cell BK359.out 0).trans rfl, (blk_cell BK359.out 1).trans rfl, (blk_cell BK359.out 2).trans rfl, (blk_cell BK359.out 3).trans rfl⟩ (fun hHeld => ?_)
           clear hK K
           refine norm_ (a' := ?_) ?_ ?_
           rotate_left
           ·show Act.put _ (some 22) _ = _
            simp only [Act.put, List.setIfInBounds_toArray, List.set_cons_zero, List.set_cons_succ, i64_w, i32_w]
            rfl
           refine pure_ (i := 2) (N := some 23) (v := ?_) (a' := ?_) #[true, true, true, false, false, false, false, false, false, false, false, false, false, false, false, false, false, false, false, false, false, false, false, false, false, false, false, false, false, false, false, false, false, false, false, false, false, false] rfl rfl (any_of HT_.out (by kernel_rfl)) (fun _ _ _ h => h) (Or.inl ⟨by rfl, ?_⟩) ?_ ?_
           rotate_left
           ·intro w'
            go_simp
            with_reducible rfl
           rotate_left
           ·simp only [Act.put, List.setIfInBounds_toArray, List.set_cons_zero, List.set_cons_succ, i64_w, i32_w]
            rfl
           refine pure_ (i := 3) (N := some 24) (v := ?_) (a' := ?_) #[true, true, true, true, false, false, false, false, false, false, false, false, false, false, false, false, false, false, false, false, false, false, false, false, false, false, false, false, false, false, false, false, false, false, false, false, false, false] rfl rfl (any_of HT_.out (by kernel_rfl)) (fun _ _ _ h => h) (Or.inl ⟨by rfl, ?_⟩) ?_ ?_
           rotate_left
           ·intro w'
            go_simp
            with_reducible rfl
           rotate_left
           ·simp only [Act.put, List.setIfInBounds_toArray, List.set_cons_zero, List.set_cons_succ, i64_w, i32_w]
            rfl
           refine take_ (i := 4) (N := some 25) (v := ?_) (a' := ?_) #[true, true, true, true, true, false, false, false, false, false, false, false, false, false, false, false, false, false, false, false, false, false, false, false, false, false, false, false, false, false, false, false, false, false, false, false, false, false] rfl rfl (take_ofW HT_.out HW_.out (by kernel_rfl)) (fun _ _ _ h => h) (Or.inl ⟨by rfl, ?_⟩) hHeld ?_ ?_
           rotate_left
           ·rintro w' ⟨s0, s1, s2, s3⟩
            go_simp
            with_reducible rfl
           rotate_left
           ·simp only [Act.put, List.setIfInBounds_toArray, List.set_cons_zero, List.set_cons_succ, i64_w, i32_w]
            rfl
           refine one_ (i := 5) (N := some 26) #[true, true, true, true, true, true, false, false, false, false, false, false, false, false, false, false, false, false, false, false, false, false, false, false, false, false, false, false, false, false, false, false, false, false, false, false, false, false] rfl rfl (one_of HT_.out (by kernel_rfl)) (by decide) (fun K hK => ?_)
           refine goes_ Try.func21 (by kernel_rfl) rfl #[.agg #[.int .i64 a0_0, .string a0_1, .int .i64 a0_2, .string a0_3]] (by rfl) rfl rfl (by (try simp only [List.map_toArray, List.map_cons, List.map_nil]); first | done | rfl | (simp only [List.length_drop, List.length_take]; rfl)) ?_
           with_reducible refine (kind_Outer.calls k a0_0 a0_1 a0_2 a0_3 t369 _ A137.out).mono ?_
           rintro e w162 ⟨rfl, hb⟩
           refine ⟨_, rfl, ?_⟩
           have n0_ := Aside0.mk (Kd.R_below (pxr HO363) hb)
           have n1_ := pxk BK359 hb
           have n2_ := pxs HB hb
           clear HO363
           clear BK359
           clear HB
           have HO363 := n0_
           have BK359 := n1_
           have HB := n2_
           clear n0_ n1_ n2_
           (try clear hb)
           (try clear hb2)
           (try clear hk)
           (try clear hi)
           refine hK.out _ _ ⟨(blk_cell BK359.out 0).trans rfl, (blk_cell BK359.out 1).trans rfl, (blk_cell BK359.out 2).trans rfl, (blk_cell BK359.out 3).trans rfl⟩ (fun hHeld => ?_)
           clear hK K
           refine norm_ (a' := ?_) ?_ ?_
           rotate_left
           ·show Act.put _ (some 26) _ = _
            simp only [Act.put, List.setIfInBounds_toArray, List.set_cons_zero, List.set_cons_succ, i64_w, i32_w]
            rfl
           refine pure_ (i := 6) (N := some 27) (v := ?_) (a' := ?_) #[true, true, true, true, true, true, true, false, false, false, false, false, false, false, false, false, false, false, false, false, false, false, false, false, false, false, false, false, false, false, false, false, false, false, false, false, false, false] rfl rfl (any_of HT_.out (by kernel_rfl)) (fun _ _ _ h => h) (Or.inl ⟨by rfl, ?_⟩) ?_ ?_
           rotate_left
           ·intro w'
            go_simp
            with_reducible rfl
           rotate_left
           ·simp only [Act.put, List.setIfInBounds_toArray, List.set_cons_zero, List.set_cons_succ, i64_w, i32_w]
            rfl
           refine pure_ (i := 7) (N := some 28) (v := ?_) (a' := ?_) #[true, true, true, true, true, true, true, true, false, false, false, false, false, false, false, false, false, false, false, false, false, false, false, false, false, false, false, false, false, false, false, false, false, false, false, false, false, false] rfl rfl (any_of HT_.out (by kernel_rfl)) (fun _ _ _ h => h) (Or.inl ⟨by rfl, ?_⟩) ?_ ?_
           rotate_left
           ·intro w'
            go_simp
            with_reducible rfl
           rotate_left
           ·simp only [Act.put, List.setIfInBounds_toArray, List.set_cons_zero, List.set_cons_succ, i64_w, i32_w]
            rfl
           refine pure_ (i := 8) (N := some 29) (v := ?_) (a' := ?_) #[true, true, true, true, true, true, true, true, true, false, false, false, false, false, false, false, false, false, false, false, false, false, false, false, false, false, false, false, false, false, false, false, false, false, false, false, false, false] rfl rfl (any_of HT_.out (by kernel_rfl)) (fun _ _ _ h => h) (Or.inl ⟨by rfl, ?_⟩) ?_ ?_
           rotate_left
           ·intro w'
            go_simp
            with_reducible rfl
           rotate_left
           ·simp only [Act.put, List.setIfInBounds_toArray, List.set_cons_zero, List.set_cons_succ, i64_w, i32_w]
            rfl
           refine take_ (i := 9) (N := some 30) (v := ?_) (a' := ?_) #[true, true, true, true, true, true, true, true, true, true, false, false, false, false, false, false, false, false, false, false, false, false, false, false, false, false, false, false, false, false, false, false, false, false, false, false, false, false] rfl rfl (take_ofW HT_.out HW_.out (by kernel_rfl)) (fun _ _ _ h => h) (Or.inl ⟨by rfl, ?_⟩) hHeld ?_ ?_
           rotate_left
           ·rintro w' ⟨s0, s1, s2, s3⟩
            go_simp
            with_reducible rfl
           rotate_left
           ·simp only [Act.put, List.setIfInBounds_toArray, List.set_cons_zero, List.set_cons_succ, i64_w, i32_w]
            rfl
           refine one_ (i := 10) (N := some 31) #[true, true, true, true, true, true, true, true, true, true, true, false, false, false, false, false, false, false, false, false, false, false, false, false, false, false, false, false, false, false, false, false, false, false, false, false, false, false] rfl rfl (one_of HT_.out (by kernel_rfl)) (by decide) (fun K hK => ?_)
           refine goes_ Try.func28 (by kernel_rfl) rfl #[.agg #[.int .i64 a0_0, .string a0_1, .int .i64 a0_2, .string a0_3]] (by rfl) rfl rfl (by (try simp only [List.map_toArray, List.map_cons, List.map_nil]); first | done | rfl | (simp only [List.length_drop, List.length_take]; rfl)) ?_
           with_reducible refine (kind_Layers.calls k a0_0 a0_1 a0_2 a0_3 t370 _ A139.out).mono ?_
           rintro e w163 ⟨v371, rfl, ho0, hb⟩
           refine ⟨_, rfl, ?_⟩
           have n0_ := Aside0.mk (Kd.R_below (pxr HO363) hb)
           have n1_ := Aside0.mk (Kd.R_lower ho0 (below_size (pxb HB)))
           have n2_ := pxk BK359 hb
           have n3_ := pxs HB hb
           clear HO363
           clear BK359
           clear HB
           have HO363 := n0_
           have HO372 := n1_
           have BK359 := n2_
           have HB := n3_
           clear n0_ n1_ n2_ n3_
           (try clear hb)
           (try clear hb2)
           (try clear hk)
           (try clear hi)
           (try clear ho0)
           obtain ⟨Ao164, co164, eo164⟩ := Kd.R_slice HO372.out
           (first | subst eo164 | (injection eo164 with f1_ f2_ f3_; have f4_ := f1_.symm; have f5_ := f3_.symm; clear f1_ f2_ f3_; subst f4_; subst f5_))
           refine hK.out _ _ ⟨(blk_cell BK359.out 0).trans rfl, (blk_cell BK359.out 1).trans rfl, (blk_cell BK359.out 2).trans rfl, (blk_cell BK359.out 3).trans rfl⟩ (fun hHeld => ?_)
           clear hK K
           refine norm_ (a' := ?_) ?_ ?_
           rotate_left
           ·show Act.put _ (some 31) _ = _
            simp only [Act.put, List.setIfInBounds_toArray, List.set_cons_zero, List.set_cons_succ, i64_w, i32_w]
            rfl
           refine pure_ (i := 11) (N := some 32) (v := ?_) (a' := ?_) #[true, true, true, true, true, true, true, true, true, true, true, true, false, false, false, false, false, false, false, false, false, false, false, false, false, false, false, false, false, false, false, false, false, false, false, false, false, false] rfl rfl (any_of HT_.out (by kernel_rfl)) (fun _ _ _ h => h) (Or.inl ⟨by rfl, ?_⟩) ?_ ?_
           rotate_left
           ·intro w'
            go_simp
            with_reducible rfl
           rotate_left
           ·simp only [Act.put, List.setIfInBounds_toArray, List.set_cons_zero, List.set_cons_succ, i64_w, i32_w]
            rfl
           refine pure_ (i := 12) (N := some 33) (v := ?_) (a' := ?_) #[true, true, true, true, true, true, true, true, true, true, true, true, true, false, false, false, false, false, false, false, false, false, false, false, false, false, false, false, false, false, false, false, false, false, false, false, false, false] rfl rfl (any_of HT_.out (by kernel_rfl)) (fun _ _ _ h => h) (Or.inl ⟨by rfl, ?_⟩) ?_ ?_
           rotate_left
           ·intro w'
            go_simp
            with_reducible rfl
           rotate_left
           ·simp only [Act.put, List.setIfInBounds_toArray, List.set_cons_zero, List.set_cons_succ, i64_w, i32_w]
            rfl
           refine pure_ (i := 13) (N := some 34) (v := ?_) (a' := ?_) #[true, true, true, true, true, true, true, true, true, true, true, true, true, true, false, false, false, false, false, false, false, false, false, false, false, false, false, false, false, false, false, false, false, false, false, false, false, false] rfl rfl (any_of HT_.out (by kernel_rfl)) (fun _ _ _ h => h) (Or.inl ⟨by rfl, ?_⟩) ?_ ?_
           rotate_left
           ·intro w'
            go_simp
            with_reducible rfl
           rotate_left
           ·simp only [Act.put, List.setIfInBounds_toArray, List.set_cons_zero, List.set_cons_succ, i64_w, i32_w]
            rfl
           refine pure_ (i := 14) (N := some 35) (v := ?_) (a' := ?_) #[true, true, true, true, true, true, true, true, true, true, true, true, true, true, true, false, false, false, false, false, false, false, false, false, false, false, false, false, false, false, false, false, false, false, false, false, false, false] rfl rfl (any_of HT_.out (by kernel_rfl)) (fun _ _ _ h => h) (Or.inl ⟨by rfl, ?_⟩) ?_ ?_
           rotate_left
           ·intro w'
            go_simp
            with_reducible rfl
           rotate_left
           ·simp only [Act.put, List.setIfInBounds_toArray, List.set_cons_zero, List.set_cons_succ, i64_w, i32_w]
            rfl
           refine take_ (i := 15) (N := some 36) (v := ?_) (a' := ?_) #[true, true, true, true, true, true, true, true, true, true, true, true, true, true, true, true, false, false, false, false, false, false, false, false, false, false, false, false, false, false, false, false, false, false, false, false, false, false] rfl rfl (take_ofW HT_.out HW_.out (by kernel_rfl)) (fun _ _ _ h => h) (Or.inl ⟨by rfl, ?_⟩) hHeld ?_ ?_
           rotate_left
           ·rintro w' ⟨s0, s1, s2, s3⟩
            go_simp
            with_reducible rfl
           rotate_left
           ·simp only [Act.put, List.setIfInBounds_toArray, List.set_cons_zero, List.set_cons_succ, i64_w, i32_w]
            rfl
           refine one_ (i := 16) (N := some 37) #[true, true, true, true, true, true, true, true, true, true, true, true, true, true, true, true, true, false, false, false, false, false, false, false, false, false, false, false, false, false, false, false, false, false, false, false, false, false] rfl rfl (one_of HT_.out (by kernel_rfl)) (by decide) (fun K hK => ?_)
           refine goes_ Try.func29 (by kernel_rfl) rfl #[.agg #[.int .i64 a0_0, .string a0_1, .int .i64 a0_2, .string a0_3]] (by rfl) rfl rfl (by (try simp only [List.map_toArray, List.map_cons, List.map_nil]); first | done | rfl | (simp only [List.length_drop, List.length_take]; rfl)) ?_
           with_reducible refine (kind_Show.calls k a0_0 a0_1 a0_2 a0_3 t373 _ A141.out).mono ?_
           rintro e w165 ⟨rfl, hb⟩
           refine ⟨_, rfl, ?_⟩
           have n0_ := Aside0.mk (Kd.R_below (pxr HO363) hb)
           have n1_ := Aside0.mk (Kd.R_below (pxr HO372) hb)
           have n2_ := pxk BK359 hb
           have n3_ := pxs HB hb
           clear HO363
           clear HO372
           clear BK359
           clear HB
           have HO363 := n0_
           have HO372 := n1_
           have BK359 := n2_
           have HB := n3_
           clear n0_ n1_ n2_ n3_
           (try clear hb)
           (try clear hb2)
           (try clear hk)
           (try clear hi)
           refine hK.out _ _ ⟨(blk_cell BK359.out 0).trans rfl, (blk_cell BK359.out 1).trans rfl, (blk_cell BK359.out 2).trans rfl, (blk_cell BK359.out 3).trans rfl⟩ (fun hHeld => ?_)
           clear hK K
           refine norm_ (a' := ?_) ?_ ?_
           rotate_left
           ·show Act.put _ (some 37) _ = _
            simp only [Act.put, List.setIfInBounds_toArray, List.set_cons_zero, List.set_cons_succ, i64_w, i32_w]
            rfl
           refine pure_ (i := 17) (N := some 38) (v := ?_) (a' := ?_) #[true, true, true, true, true, true, true, true, true, true, true, true, true, true, true, true, true, true, false, false, false, false, false, false, false, false, false, false, false, false, false, false, false, false, false, false, false, false] rfl rfl (any_of HT_.out (by kernel_rfl)) (fun _ _ _ h => h) (Or.inl ⟨by rfl, ?_⟩) ?_ ?_
           rotate_left
           ·intro w'
            go_simp
            with_reducible rfl
           rotate_left
           ·simp only [Act.put, List.setIfInBounds_toArray, List.set_cons_zero, List.set_cons_succ, i64_w, i32_w]
            rfl
           refine pure_ (i := 18) (N := some 39) (v := ?_) (a' := ?_) #[true, true, true, true, true, true, true, true, true, true, true, true, true, true, true, true, true, true, true, false, false, false, false, false, false, false, false, false, false, false, false, false, false, false, false, false, false, false] rfl rfl (any_of HT_.out (by kernel_rfl)) (fun _ _ _ h => h) (Or.inl ⟨by rfl, ?_⟩) ?_ ?_
           rotate_left
           ·intro w'
            go_simp
            with_reducible rfl
           rotate_left
           ·simp only [Act.put, List.setIfInBounds_toArray, List.set_cons_zero, List.set_cons_succ, i64_w, i32_w]
            rfl
           refine pure_ (i := 19) (N := some 40) (v := ?_) (a' := ?_) #[true, true, true, true, true, true, true, true, true, true, true, true, true, true, true, true, true, true, true, true, false, false, false, false, false, false, false, false, false, false, false, false, false, false, false, false, false, false] rfl rfl (any_of HT_.out (by kernel_rfl)) (fun _ _ _ h => h) (Or.inl ⟨by rfl, ?_⟩) ?_ ?_
           rotate_left
           ·intro w'
            go_simp
            with_reducible rfl
           rotate_left
           ·simp only [Act.put, List.setIfInBounds_toArray, List.set_cons_zero, List.set_cons_succ, i64_w, i32_w]
            rfl
           refine take_ (i := 20) (N := some 41) (v := ?_) (a' := ?_) #[true, true, true, true, true, true, true, true, true, true, true, true, true, true, true, true, true, true, true, true, true, false, false, false, false, false, false, false, false, false, false, false, false, false, false, false, false, false] rfl rfl (take_ofW HT_.out HW_.out (by kernel_rfl)) (fun _ _ _ h => h) (Or.inl ⟨by rfl, ?_⟩) hHeld ?_ ?_
           rotate_left
           ·rintro w' ⟨s0, s1, s2, s3⟩
            go_simp
            with_reducible rfl
           rotate_left
           ·simp only [Act.put, List.setIfInBounds_toArray, List.set_cons_zero, List.set_cons_succ, i64_w, i32_w]
            rfl
           refine take_ (i := 22) (N := some 43) (v := ?_) (a' := ?_) #[true, true, true, true, true, true, true, true, true, true, true, true, true, true, true, true, true, true, true, true, true, false, true, false, false, false, false, false, false, false, false, false, false, false, false, false, false, false] rfl rfl (take_ofW HT_.out HW_.out (by kernel_rfl)) (fun _ _ _ h => h) (Or.inl ⟨by rfl, ?_⟩) hHeld ?_ ?_
           rotate_left
           ·rintro w' ⟨s0, s1, s2, s3⟩
            go_simp
            with_reducible rfl
           rotate_left
           ·simp only [Act.put, List.setIfInBounds_toArray, List.set_cons_zero, List.set_cons_succ, i64_w, i32_w]
            rfl
           refine one_ (i := 21) (N := some 42) #[true, true, true, true, true, true, true, true, true, true, true, true, true, true, true, true, true, true, true, true, true, true, true, false, false, false, false, false, false, false, false, false, false, false, false, false, false, false] rfl rfl (one_of HT_.out (by kernel_rfl)) (by decide) (fun K hK => ?_)
           refine goes_ Try.func22 (by kernel_rfl) rfl #[.agg #[.int .i64 a0_0, .string a0_1, .int .i64 a0_2, .string a0_3]] (by rfl) rfl rfl (by (try simp only [List.map_toArray, List.map_cons, List.map_nil]); first | done | rfl | (simp only [List.length_drop, List.length_take]; rfl)) ?_
           with_reducible refine (kind_Bare.calls k a0_0 a0_1 a0_2 a0_3 t374 t375 t376 t377 _ A143.out).mono ?_
           rintro e w166 ⟨rfl, hb⟩
           refine ⟨_, rfl, ?_⟩
           have n0_ := Aside0.mk (Kd.R_below (pxr HO363) hb)
           have n1_ := Aside0.mk (Kd.R_below (pxr HO372) hb)
           have n2_ := pxk BK359 hb
           have n3_ := pxs HB hb
           clear HO363
           clear HO372
           clear BK359
           clear HB
           have HO363 := n0_
           have HO372 := n1_
           have BK359 := n2_
           have HB := n3_
           clear n0_ n1_ n2_ n3_
           (try clear hb)
           (try clear hb2)
           (try clear hk)
           (try clear hi)
           refine hK.out _ _ ⟨(blk_cell BK359.out 0).trans rfl, (blk_cell BK359.out 1).trans rfl, (blk_cell BK359.out 2).trans rfl, (blk_cell BK359.out 3).trans rfl⟩ (fun hHeld => ?_)
           clear hK K
           refine norm_ (a' := ?_) ?_ ?_
           rotate_left
           ·show Act.put _ (some 42) _ = _
            simp only [Act.put, List.setIfInBounds_toArray, List.set_cons_zero, List.set_cons_succ, i64_w, i32_w]
            rfl
           refine pure_ (i := 23) (N := some 44) (v := ?_) (a' := ?_) #[true, true, true, true, true, true, true, true, true, true, true, true, true, true, true, true, true, true, true, true, true, true, true, true, false, false, false, false, false, false, false, false, false, false, false, false, false, false] rfl rfl (any_of HT_.out (by kernel_rfl)) (fun _ _ _ h => h) (Or.inl ⟨by rfl, ?_⟩) ?_ ?_
           rotate_left
           ·intro w'
            go_simp
            with_reducible rfl
           rotate_left
           ·simp only [Act.put, List.setIfInBounds_toArray, List.set_cons_zero, List.set_cons_succ, i64_w, i32_w]
            rfl
           refine pure_ (i := 24) (N := some 45) (v := ?_) (a' := ?_) #[true, true, true, true, true, true, true, true, true, true, true, true, true, true, true, true, true, true, true, true, true, true, true, true, true, false, false, false, false, false, false, false, false, false, false, false, false, false] rfl rfl (any_of HT_.out (by kernel_rfl)) (fun _ _ _ h => h) (Or.inl ⟨by rfl, ?_⟩) ?_ ?_
           rotate_left
           ·intro w'
            go_simp
            with_reducible rfl
           rotate_left
           ·simp only [Act.put, List.setIfInBounds_toArray, List.set_cons_zero, List.set_cons_succ, i64_w, i32_w]
            rfl
           refine pure_ (i := 25) (N := some 46) (v := ?_) (a' := ?_) #[true, true, true, true, true, true, true, true, true, true, true, true, true, true, true, true, true, true, true, true, true, true, true, true, true, true, false, false, false, false, false, false, false, false, false, false, false, false] rfl rfl (any_of HT_.out (by kernel_rfl)) (fun _ _ _ h => h) (Or.inl ⟨by rfl, ?_⟩) ?_ ?_
           rotate_left
           ·intro w'
            go_simp
            with_reducible rfl
           rotate_left
           ·simp only [Act.put, List.setIfInBounds_toArray, List.set_cons_zero, List.set_cons_succ, i64_w, i32_w]
            rfl
           refine take_ (i := 26) (N := some 47) (v := ?_) (a' := ?_) #[true, true, true, true, true, true, true, true, true, true, true, true, true, true, true, true, true, true, true, true, true, true, true, true, true, true, true, false, false, false, false, false, false, false, false, false, false, false] rfl rfl (take_ofW HT_.out HW_.out (by kernel_rfl)) (fun _ _ _ h => h) (Or.inl ⟨by rfl, ?_⟩) hHeld ?_ ?_
           rotate_left
           ·rintro w' ⟨s0, s1, s2, s3⟩
            go_simp
            with_reducible rfl
           rotate_left
           ·simp only [Act.put, List.setIfInBounds_toArray, List.set_cons_zero, List.set_cons_succ, i64_w, i32_w]
            rfl
           refine one_ (i := 27) (N := some 48) #[true, true, true, true, true, true, true, true, true, true, true, true, true, true, true, true, true, true, true, true, true, true, true, true, true, true, true, true, false, false, false, false, false, false, false, false, false, false] rfl rfl (one_of HT_.out (by kernel_rfl)) (by decide) (fun K hK => ?_)
           refine goes_ Try.func25 (by kernel_rfl) rfl #[.agg #[.int .i64 a0_0, .string a0_1, .int .i64 a0_2, .string a0_3]] (by rfl) rfl rfl (by (try simp only [List.map_toArray, List.map_cons, List.map_nil]); first | done | rfl | (simp only [List.length_drop, List.length_take]; rfl)) ?_
           with_reducible refine (kind_Number.calls k a0_0 a0_1 a0_2 a0_3 false _ A145.out).mono ?_
           rintro e w167 ⟨rfl, hb⟩
           refine ⟨_, rfl, ?_⟩
           have n0_ := Aside0.mk (Kd.R_below (pxr HO363) hb)
           have n1_ := Aside0.mk (Kd.R_below (pxr HO372) hb)
           have n2_ := pxk BK359 hb
           have n3_ := pxs HB hb
           clear HO363
           clear HO372
           clear BK359
           clear HB
           have HO363 := n0_
           have HO372 := n1_
           have BK359 := n2_
           have HB := n3_
           clear n0_ n1_ n2_ n3_
           (try clear hb)
           (try clear hb2)
           (try clear hk)
           (try clear hi)
           refine hK.out _ _ ⟨(blk_cell BK359.out 0).trans rfl, (blk_cell BK359.out 1).trans rfl, (blk_cell BK359.out 2).trans rfl, (blk_cell BK359.out 3).trans rfl⟩ (fun hHeld => ?_)
           clear hK K
           refine norm_ (a' := ?_) ?_ ?_
           rotate_left
           ·show Act.put _ (some 48) _ = _
            simp only [Act.put, List.setIfInBounds_toArray, List.set_cons_zero, List.set_cons_succ, i64_w, i32_w]
            rfl
           refine pure_ (i := 28) (N := some 49) (v := ?_) (a' := ?_) #[true, true, true, true, true, true, true, true, true, true, true, true, true, true, true, true, true, true, true, true, true, true, true, true, true, true, true, true, true, false, false, false, false, false, false, false, false, false] rfl rfl (any_of HT_.out (by kernel_rfl)) (fun _ _ _ h => h) (Or.inl ⟨by rfl, ?_⟩) ?_ ?_
           rotate_left
           ·intro w'
            go_simp
            with_reducible rfl
           rotate_left
           ·simp only [Act.put, List.setIfInBounds_toArray, List.set_cons_zero, List.set_cons_succ, i64_w, i32_w]
            rfl
           refine pure_ (i := 29) (N := some 50) (v := ?_) (a' := ?_) #[true, true, true, true, true, true, true, true, true, true, true, true, true, true, true, true, true, true, true, true, true, true, true, true, true, true, true, true, true, true, false, false, false, false, false, false, false, false] rfl rfl (any_of HT_.out (by kernel_rfl)) (fun _ _ _ h => h) (Or.inl ⟨by rfl, ?_⟩) ?_ ?_
           rotate_left
           ·intro w'
            go_simp
            with_reducible rfl
           rotate_left
           ·simp only [Act.put, List.setIfInBounds_toArray, List.set_cons_zero, List.set_cons_succ, i64_w, i32_w]
            rfl
           refine pure_ (i := 30) (N := some 51) (v := ?_) (a' := ?_) #[true, true, true, true, true, true, true, true, true, true, true, true, true, true, true, true, true, true, true, true, true, true, true, true, true, true, true, true, true, true, true, false, false, false, false, false, false, false] rfl rfl (any_of HT_.out (by kernel_rfl)) (fun _ _ _ h => h) (Or.inl ⟨by rfl, ?_⟩) ?_ ?_
           rotate_left
           ·intro w'
            go_simp
            with_reducible rfl
           rotate_left
           ·simp only [Act.put, List.setIfInBounds_toArray, List.set_cons_zero, List.set_cons_succ, i64_w, i32_w]
            rfl
           refine pure_ (i := 32) (N := some 53) (v := ?_) (a' := ?_) #[true, true, true, true, true, true, true, true, true, true, true, true, true, true, true, true, true, true, true, true, true, true, true, true, true, true, true, true, true, true, true, false, true, false, false, false, false, false] rfl rfl (any_of HT_.out (by kernel_rfl)) (fun _ _ _ h => h) (Or.inl ⟨by rfl, ?_⟩) ?_ ?_
           rotate_left
           ·intro w'
            go_simp
            with_reducible rfl
           rotate_left
           ·simp only [Act.put, List.setIfInBounds_toArray, List.set_cons_zero, List.set_cons_succ, i64_w, i32_w]
            rfl
           refine take_ (i := 31) (N := some 52) (v := ?_) (a' := ?_) #[true, true, true, true, true, true, true, true, true, true, true, true, true, true, true, true, true, true, true, true, true, true, true, true, true, true, true, true, true, true, true, true, true, false, false, false, false, false] rfl rfl (take_ofW HT_.out HW_.out (by kernel_rfl)) (fun _ _ _ h => h) (Or.inl ⟨by rfl, ?_⟩) hHeld ?_ ?_
           rotate_left
           ·rintro w' ⟨s0, s1, s2, s3⟩
            go_simp
            with_reducible rfl
           rotate_left
           ·simp only [Act.put, List.setIfInBounds_toArray, List.set_cons_zero, List.set_cons_succ, i64_w, i32_w]
            rfl
           refine take_ (i := 33) (N := some 54) (v := ?_) (a' := ?_) #[true, true, true, true, true, true, true, true, true, true, true, true, true, true, true, true, true, true, true, true, true, true, true, true, true, true, true, true, true, true, true, true, true, true, false, false, false, false] rfl rfl (take_ofW HT_.out HW_.out (by kernel_rfl)) (fun _ _ _ h => h) (Or.inl ⟨by rfl, ?_⟩) hHeld ?_ ?_
           rotate_left
           ·rintro w' ⟨s0, s1, s2, s3⟩
            go_simp
            with_reducible rfl
           rotate_left
           ·simp only [Act.put, List.setIfInBounds_toArray, List.set_cons_zero, List.set_cons_succ, i64_w, i32_w]
            rfl
           refine one_ (i := 34) (N := some 55) #[true, true, true, true, true, true, true, true, true, true, true, true, true, true, true, true, true, true, true, true, true, true, true, true, true, true, true, true, true, true, true, true, true, true, true, false, false, false] rfl rfl (one_of HT_.out (by kernel_rfl)) (by decide) (fun K hK => ?_)
           refine goes_ Try.func24 (by kernel_rfl) rfl #[.agg #[.int .i64 a0_0, .string a0_1, .int .i64 a0_2, .string a0_3], .int .i64 a0_0] (by rfl) rfl rfl (by (try simp only [List.map_toArray, List.map_cons, List.map_nil]); first | done | rfl | (simp only [List.length_drop, List.length_take]; rfl)) ?_
           with_reducible refine (kind_Is.calls k a0_0 a0_1 a0_2 a0_3 a0_0 t379 _ A147.out).mono ?_
           rintro e w168 ⟨rfl, hb⟩
           refine ⟨_, rfl, ?_⟩
           have n0_ := Aside0.mk (Kd.R_below (pxr HO363) hb)
           have n1_ := Aside0.mk (Kd.R_below (pxr HO372) hb)
           have n2_ := pxk BK359 hb
           have n3_ := pxs HB hb
           clear HO363
           clear HO372
           clear BK359
           clear HB
           have HO363 := n0_
           have HO372 := n1_
           have BK359 := n2_
           have HB := n3_
           clear n0_ n1_ n2_ n3_
           (try clear hb)
           (try clear hb2)
           (try clear hk)
           (try clear hi)
           refine hK.out _ _ ⟨(blk_cell BK359.out 0).trans rfl, (blk_cell BK359.out 1).trans rfl, (blk_cell BK359.out 2).trans rfl, (blk_cell BK359.out 3).trans rfl⟩ (fun hHeld => ?_)
           clear hK K
           refine norm_ (a' := ?_) ?_ ?_
           rotate_left
           ·show Act.put _ (some 55) _ = _
            simp only [Act.put, List.setIfInBounds_toArray, List.set_cons_zero, List.set_cons_succ, i64_w, i32_w]
            rfl
           refine pure_ (i := 35) (N := some 56) (v := ?_) (a' := ?_) #[true, true, true, true, true, true, true, true, true, true, true, true, true, true, true, true, true, true, true, true, true, true, true, true, true, true, true, true, true, true, true, true, true, true, true, true, false, false] rfl rfl (any_of HT_.out (by kernel_rfl)) (fun _ _ _ h => h) (Or.inl ⟨by rfl, ?_⟩) ?_ ?_
           rotate_left
           ·intro w'
            go_simp
            with_reducible rfl
           rotate_left
           ·simp only [Act.put, List.setIfInBounds_toArray, List.set_cons_zero, List.set_cons_succ, i64_w, i32_w]
            rfl
           refine pure_ (i := 36) (N := some 57) (v := ?_) (a' := ?_) #[true, true, true, true, true, true, true, true, true, true, true, true, true, true, true, true, true, true, true, true, true, true, true, true, true, true, true, true, true, true, true, true, true, true, true, true, true, false] rfl rfl (any_of HT_.out (by kernel_rfl)) (fun _ _ _ h => h) (Or.inl ⟨by rfl, ?_⟩) ?_ ?_
           rotate_left
           ·intro w'
            go_simp
            with_reducible rfl
           rotate_left
           ·simp only [Act.put, List.setIfInBounds_toArray, List.set_cons_zero, List.set_cons_succ, i64_w, i32_w]
            rfl
           refine pure_ (i := 37) (N := some 2) (v := ?_) (a' := ?_) #[true, true, true, true, true, true, true, true, true, true, true, true, true, true, true, true, true, true, true, true, true, true, true, true, true, true, true, true, true, true, true, true, true, true, true, true, true, true] rfl rfl (any_of HT_.out (by kernel_rfl)) (fun _ _ _ h => h) (Or.inl ⟨by rfl, ?_⟩) ?_ ?_
           rotate_left
           ·intro w'
            go_simp
            with_reducible rfl
           rotate_left
           ·simp only [Act.put, List.setIfInBounds_toArray, List.set_cons_zero, List.set_cons_succ, i64_w, i32_w]
            rfl
           refine done_ (done_of HT_.out (by kernel_rfl)) ?_
           try go_wp2
           go_ret
           exact ⟨by first | rfl | (simp [errW_none, errW_some] <;> rfl) | (simp [*, errW_none, errW_some] <;> rfl) | (simp [*, pxbeq, pxbne, errW_none, errW_some]; done), pxb HB⟩
         ·rw [if_neg c144] at H
          exact absurd H (by simp)
        ·rw [if_neg c142] at H
         exact absurd H (by simp)
       ·rw [if_neg c140] at H
        exact absurd H (by simp)
      ·rw [if_neg c138] at H
       exact absurd H (by simp)
  ·replace c5 := Bool.eq_false_iff.mpr c5
   subst c5
   have H1 : (some true) = some r := by rw [if_neg (show ¬ (false = true) by decide)] at H; exact H
   clear H
   have H := H1
   clear H1
   obtain rfl := Option.some.inj H
   go_enter Try.func8, Try.ntmps8
   go_wp2_with (first | ((with_reducible refine gate_dst (N := 1) rfl ?_); refine box_event ?hg (N := 1) ?hd (cs := #[.int .i64 a0_0, .string a0_1, .int .i64 a0_2, .string a0_3]) (t := 23) ?hr ?_; (case hd => rfl); (case hg => rfl); (case hr => first | (go_simp; done) | (go_simp; rfl)); intro gb359 hg w169 hbox hb; have BK359 := Aside0.mk (hbox); have GW359 := pxw HB hg; have GE359 := pxw HB hg; replace HB := pxs HB hb; clear hb hbox hg) | ((with_reducible refine gate_callee (f := 9) rfl ?_); refine goesL_ (some 7) rfl rfl Try.func9 (by kernel_rfl) rfl #[] rfl (by (try simp only [List.map_toArray, List.map_cons, List.map_nil]); first | done | rfl | (simp only [List.length_drop, List.length_take]; rfl)) ?_; (with_reducible refine (caulkerlaw10_sorts.calls k  true _ A2.out).mono ?_); rintro e w170 ⟨rfl, hb⟩; refine ⟨_, rfl, ?_⟩; replace BK359 := pxk BK359 hb; replace HB := pxs HB hb; (try clear hb); (try clear hb2); (try clear hk); (try clear hi); obtain ⟨hcz171_0, hcz171_1, hcz171_2, hcz171_3, hfz171_0, hfz171_1, hfz171_2, hfz171_3⟩ := pxf4 BK359) | ((with_reducible refine gate_dst (N := 10) rfl ?_); refine Kd.R_lit k23 _ 23 ?hg (N := 10) ?hd (xs := ([(⟨a0_0, a0_1, a0_2, a0_3⟩ : S23)] : List (S23))) (inner := [.int .i64 a0_0, .string a0_1, .int .i64 a0_2, .string a0_3]) (ok := fun _ => True) (okp := fun _ => True) ?hr ?hp (fun _ hk => hk) trivial (Below.refl _ _) (Nat.le_refl _) (by simp) ?_; (case hd => rfl); (case hg => rfl); (case hr => first | (go_simp; done) | (go_simp; rfl)); (case hp => exact (Reps.c4 (show Kd.M k23 _ _ _ (⟨a0_0, a0_1, a0_2, a0_3⟩ : S23) [.int .i64 a0_0, .string a0_1, .int .i64 a0_2, .string a0_3] from (k23_mkM _ _ _ (⟨a0_0, a0_1, a0_2, a0_3⟩ : S23) )) (Reps.none _ _))); intro v362 w172 ho173 hb hg_ hnew_; clear hg_ hnew_; (first | rw [← Ny361.out] at ho173 | (simp only [Int.reduceToNat] at ho173; rw [← Ny361.out] at ho173)); have HO363 := Aside0.mk (Kd.R_lower (Kd.R_newB ho173 (g := gb359) (o := .cells #[.int .i64 a0_0, .string a0_1, .int .i64 a0_2, .string a0_3] 23 (0, 0)) (pxq BK359)) (below_size (pxb HB))); replace BK359 := pxk BK359 hb; replace HB := pxs HB hb; clear hb ho173; obtain ⟨Ao174, co174, eo174⟩ := Kd.R_slice HO363.out; subst eo174) | ((with_reducible refine gate_callee (f := 10) rfl ?_); refine goesL_ (some 11) rfl rfl Try.func10 (by kernel_rfl) rfl #[.slice Ao174 y361.length co174] rfl (by (try simp only [List.map_toArray, List.map_cons, List.map_nil]); first | done | rfl | (simp only [List.length_drop, List.length_take]; rfl)) ?_; (with_reducible refine (caulkerlaw10_small.calls k _ _ y361 false _ ?side1 ?side2 A4.out).mono ?_); (case side1 => repeat (first | exact (Kd.R_reads' HO363.out).2.2 | (with_reducible refine Kd.C_alloc ?_ _) | (with_reducible refine Kd.C_drewN ?_ _) | (with_reducible refine Kd.C_drew ?_))); (case side2 => exact (Kd.R_reads' HO363.out).2.1); rintro e w175 ⟨rfl, hb⟩; refine ⟨_, rfl, ?_⟩; replace HO363 := Aside0.mk (Kd.R_below (pxr HO363) hb); replace BK359 := pxk BK359 hb; replace HB := pxs HB hb; (try clear hb); (try clear hb2); (try clear hk); (try clear hi)))
   go_ret
   exact ⟨by first | rfl | (simp [errW_none, errW_some] <;> rfl) | (simp [*, errW_none, errW_some] <;> rfl) | (simp [*, pxbeq, pxbne, errW_none, errW_some]; done), pxb HB⟩
 ·replace c3 := Bool.eq_false_iff.mpr c3
  subst c3
  have H1 : (none) = some r := by rw [if_neg (show ¬ (false = true) by decide)] at H; exact H
  clear H
  have H := H1
  clear H1
  exact absurd H (by simp)

/-- THE ONE PURE STATEMENT of caulkerlaw10_KindTells. -/
def caulkerlaw10_KindTells.Pure : Prop := ∀ (a0_0 : Int) (a0_1 : ByteArray) (a0_2 : Int) (a0_3 : ByteArray), good23 ((⟨a0_0, a0_1, a0_2, a0_3⟩ : S23)) → ∃ k, caulkerlaw10_KindTells.f k a0_0 a0_1 a0_2 a0_3 = some true

end Go.Proofs.Ytljchkghnmnpgaa.X
