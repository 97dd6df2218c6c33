/- What the program's functions answer, as Lean functions, and that each call does just that; no condition. Written by a program (px.py) out of the translation. -/
import Derived.Test.YtljchkghnmnpgaaX0
import Derived.Test.YtljchkghnmnpgaaXE23
import Derived.Test.YtljchkghnmnpgaaX15
import Derived.Test.YtljchkghnmnpgaaX16
import Derived.Test.YtljchkghnmnpgaaX9
import Derived.Test.YtljchkghnmnpgaaX10
import Derived.Test.YtljchkghnmnpgaaX18
import Derived.Test.YtljchkghnmnpgaaX17
import Derived.Test.YtljchkghnmnpgaaShort2
namespace Go.Proofs.Ytljchkghnmnpgaa.X
open Go.RowKit Go.Proofs.YtljchkghnmnpgaaW.PrintWords Go.Proofs.YtljchkghnmnpgaaW.PrintLast Go.Proofs.YtljchkghnmnpgaaW.PrintMore
attribute [local go_sem] max2_int min2_int max_two min_two max_three min_three max_four min_four   -- for this text's walks alone
set_option linter.unusedVariables false
set_option linter.unusedSimpArgs false

attribute [local go_sem high] eqA23
/-! ### caulkerlaw10_KindMarks: function 4 -/
mutual
def caulkerlaw10_KindMarks.j0 : Nat → Int → Int → Int → Int → Bool → Int → ByteArray → Int → ByteArray → Int → ByteArray → Int → ByteArray → Int → ByteArray → Int → ByteArray → Option (Bool)
 | 0, _, _, _, _, _, _, _, _, _, _, _, _, _, _, _, _, _ => none
 | k + 1, x1, x2, x8, x10, x58, x251000, x251001, x251002, x251003, x262000, x262001, x262002, x262003, x268000, x268001, x268002, x268003 => if x58 = true then (if x8 = 1 then (if (!(x262000 == 0) || (!(x262001.toList == ([] : List UInt8)) || (!(x262002 == 0) || (!(x262003.toList == ([] : List UInt8)))))) = true then (none) else (caulkerlaw10_KindMarks.j1 k x2 x10 x251000 x251001 x251002 x251003 x268000 x268001 x268002 x268003)) else (none)) else (if 0 ≤ x1 then (if x1 ≤ (x251003.size : Int) then ((some (([x2] : List Int) : List Int)).bind fun y270 => (if (x251003.extract 0 (x1 : Int).toNat).size + (strOfNums y270).size ≤ 9223372036854775807 then (if 0 ≤ (wrap64 (x1 + 1)) then (if (wrap64 (x1 + 1)) ≤ (x251003.size : Int) then (if ((x251003.extract 0 (x1 : Int).toNat) ++ (strOfNums y270)).size + (x251003.extract ((wrap64 (x1 + 1)) : Int).toNat x251003.size).size ≤ 9223372036854775807 then ((caulkerref07_Right.f k x251000 x251001 x251002 (((x251003.extract 0 (x1 : Int).toNat) ++ (strOfNums y270)) ++ (x251003.extract ((wrap64 (x1 + 1)) : Int).toNat x251003.size))).bind fun t273 => (if (t273 != (x8 == 0)) = true then (none) else (if x8 = 0 then (if (!(x262000 == x251000) || (!(x262001.toList == x251001.toList) || (!(x262002 == x251002) || (!(x262003.toList == ((((x251003.extract 0 (x1 : Int).toNat) ++ (strOfNums y270)) ++ (x251003.extract ((wrap64 (x1 + 1)) : Int).toNat x251003.size)).toList)))))) = true then (none) else (caulkerlaw10_KindMarks.j1 k x2 x10 x251000 x251001 x251002 x251003 x268000 x268001 x268002 x268003)) else (if x8 = 81 then (if (!(x262000 == 0) || (!(x262001.toList == ([] : List UInt8)) || (!(x262002 == 0) || (!(x262003.toList == ([] : List UInt8)))))) = true then (none) else (caulkerlaw10_KindMarks.j1 k x2 x10 x251000 x251001 x251002 x251003 x268000 x268001 x268002 x268003)) else (none))))) else (none)) else (none)) else (none)) else (none))) else (none)) else (none))
def caulkerlaw10_KindMarks.j1 : Nat → Int → Int → Int → ByteArray → Int → ByteArray → Int → ByteArray → Int → ByteArray → Option (Bool)
 | 0, _, _, _, _, _, _, _, _, _, _ => none
 | k + 1, x2, x10, x251000, x251001, x251002, x251003, x268000, x268001, x268002, x268003 => if x251002 = 0 then (caulkerlaw10_KindMarks.j2 k x2 x10 (x251000 != 5) x251000 x251001 x251002 x251003 x268000 x268001 x268002 x268003) else (caulkerlaw10_KindMarks.j2 k x2 x10 false x251000 x251001 x251002 x251003 x268000 x268001 x268002 x268003)
def caulkerlaw10_KindMarks.j2 : Nat → Int → Int → Bool → Int → ByteArray → Int → ByteArray → Int → ByteArray → Int → ByteArray → Option (Bool)
 | 0, _, _, _, _, _, _, _, _, _, _, _ => none
 | k + 1, x2, x10, x116, x251000, x251001, x251002, x251003, x268000, x268001, x268002, x268003 => if x116 = true then (if x10 = 130 then (some (x268000 == 0 && (x268001.toList == ([] : List UInt8) && (x268002 == 0 && (x268003.toList == ([] : List UInt8)))))) else (none)) else (if 0 ≤ x251002 then (if x251002 ≤ (x251003.size : Int) then ((some (([x2] : List Int) : List Int)).bind fun y275 => (if (x251003.extract 0 (x251002 : Int).toNat).size + (strOfNums y275).size ≤ 9223372036854775807 then ((caulkerref07_Right.f k x251000 x251001 x251002 ((x251003.extract 0 (x251002 : Int).toNat) ++ (strOfNums y275))).bind fun t278 => (if t278 = true then (if x10 = 0 then (some (x268000 == x251000 && (x268001.toList == x251001.toList && (x268002 == x251002 && (x268003.toList == (((x251003.extract 0 (x251002 : Int).toNat) ++ (strOfNums y275)).toList)))))) else (none)) else (if x10 = 81 then (some (x268000 == 0 && (x268001.toList == ([] : List UInt8) && (x268002 == 0 && (x268003.toList == ([] : List UInt8)))))) else (none)))) else (none))) else (none)) else (none))
end
def caulkerlaw10_KindMarks.f (k : Nat) (a0_0 : Int) (a0_1 : ByteArray) (a0_2 : Int) (a0_3 : ByteArray) (a1 : Int) (a2 : Int) : Option (Bool) := (caulkerlaw10_sorts.f k).bind fun t251 => (if t251 = true then ((caulkerlaw10_small.f k (([(⟨a0_0, a0_1, a0_2, a0_3⟩ : S23)] : List (S23)))).bind fun t255 => (if t255 = true then ((kind_Mark.f k a0_0 a0_1 a0_2 a0_3 a1 a2).bind fun bt256 => ((kind_With.f k a0_0 a0_1 a0_2 a0_3 a2).bind fun bt262 => ((caulkerlaw10_plain.f k a0_0 a0_1 a0_2 a0_3).bind fun t268 => (if t268 = true then (if a1 < 0 then (caulkerlaw10_KindMarks.j0 k a1 a2 bt256.2.2.2.2 bt262.2.2.2.2 true a0_0 a0_1 a0_2 a0_3 bt256.1 bt256.2.1 bt256.2.2.1 bt256.2.2.2.1 bt262.1 bt262.2.1 bt262.2.2.1 bt262.2.2.2.1) else (caulkerlaw10_KindMarks.j0 k a1 a2 bt256.2.2.2.2 bt262.2.2.2.2 (decide (a1 > a0_2)) a0_0 a0_1 a0_2 a0_3 bt256.1 bt256.2.1 bt256.2.2.1 bt256.2.2.2.1 bt262.1 bt262.2.1 bt262.2.2.1 bt262.2.2.2.1)) else (if bt256.2.2.2.2 = 130 then (if bt262.2.2.2.2 = 130 then (if (bt256.1 == 0 && (bt256.2.1.toList == ([] : List UInt8) && (bt256.2.2.1 == 0 && (bt256.2.2.2.1.toList == ([] : List UInt8))))) = true then (some (bt262.1 == 0 && (bt262.2.1.toList == ([] : List UInt8) && (bt262.2.2.1 == 0 && (bt262.2.2.2.1.toList == ([] : List UInt8)))))) else (none)) else (none)) else (none)))))) else (some true))) else (none))
theorem caulkerlaw10_KindMarks.mono_l : ∀ k, (∀ y0 y1 y2 y3 y4 y5 y6 y7 y8 y9 y10 y11 y12 y13 y14 y15 y16, LeO (caulkerlaw10_KindMarks.j0 k y0 y1 y2 y3 y4 y5 y6 y7 y8 y9 y10 y11 y12 y13 y14 y15 y16) (caulkerlaw10_KindMarks.j0 (k + 1) y0 y1 y2 y3 y4 y5 y6 y7 y8 y9 y10 y11 y12 y13 y14 y15 y16)) ∧ (∀ y0 y1 y2 y3 y4 y5 y6 y7 y8 y9, LeO (caulkerlaw10_KindMarks.j1 k y0 y1 y2 y3 y4 y5 y6 y7 y8 y9) (caulkerlaw10_KindMarks.j1 (k + 1) y0 y1 y2 y3 y4 y5 y6 y7 y8 y9)) ∧ (∀ y0 y1 y2 y3 y4 y5 y6 y7 y8 y9 y10, LeO (caulkerlaw10_KindMarks.j2 k y0 y1 y2 y3 y4 y5 y6 y7 y8 y9 y10) (caulkerlaw10_KindMarks.j2 (k + 1) y0 y1 y2 y3 y4 y5 y6 y7 y8 y9 y10))
 | 0 => ⟨fun _ _ _ _ _ _ _ _ _ _ _ _ _ _ _ _ _ r h => by simp [caulkerlaw10_KindMarks.j0] at h, fun _ _ _ _ _ _ _ _ _ _ r h => by simp [caulkerlaw10_KindMarks.j1] at h, fun _ _ _ _ _ _ _ _ _ _ _ r h => by simp [caulkerlaw10_KindMarks.j2] at h⟩
 | k + 1 => by
  obtain ⟨ih0, ih1, ih2⟩ := caulkerlaw10_KindMarks.mono_l k
  refine ⟨?_, ?_, ?_⟩
  ·intro y0 y1 y2 y3 y4 y5 y6 y7 y8 y9 y10 y11 y12 y13 y14 y15 y16
   unfold caulkerlaw10_KindMarks.j0
   repeat' first
   | (with_reducible exact ih0 _ _ _ _ _ _ _ _ _ _ _ _ _ _ _ _ _)
   | (with_reducible exact ih1 _ _ _ _ _ _ _ _ _ _)
   | (with_reducible exact ih2 _ _ _ _ _ _ _ _ _ _ _)
   | (with_reducible exact caulkerlaw10_plain.mono _ _ _ _ _)
   | (with_reducible exact caulkerlaw10_small.mono _ _)
   | (with_reducible exact caulkerlaw10_sorts.mono _)
   | (with_reducible exact caulkerref07_Right.mono _ _ _ _ _)
   | (with_reducible exact kind_Mark.mono _ _ _ _ _ _ _)
   | (with_reducible exact kind_With.mono _ _ _ _ _ _)
   | (with_reducible exact LeO.refl _)
   | (with_reducible exact LeO.none _)
   | (with_reducible refine LeO.ite ?_ ?_)
   | (with_reducible refine LeO.bind ?_ (fun _ => ?_))
   | exact ih0 _ _ _ _ _ _ _ _ _ _ _ _ _ _ _ _ _
   | exact ih1 _ _ _ _ _ _ _ _ _ _
   | exact ih2 _ _ _ _ _ _ _ _ _ _ _
   | exact caulkerlaw10_plain.mono _ _ _ _ _
   | exact caulkerlaw10_small.mono _ _
   | exact caulkerlaw10_sorts.mono _
   | exact caulkerref07_Right.mono _ _ _ _ _
   | exact kind_Mark.mono _ _ _ _ _ _ _
   | exact kind_With.mono _ _ _ _ _ _
   | exact LeO.none _
   | refine LeO.ite ?_ ?_
   | refine LeO.bind ?_ (fun _ => ?_)
  ·intro y0 y1 y2 y3 y4 y5 y6 y7 y8 y9
   unfold caulkerlaw10_KindMarks.j1
   repeat' first
   | (with_reducible exact ih0 _ _ _ _ _ _ _ _ _ _ _ _ _ _ _ _ _)
   | (with_reducible exact ih1 _ _ _ _ _ _ _ _ _ _)
   | (with_reducible exact ih2 _ _ _ _ _ _ _ _ _ _ _)
   | (with_reducible exact caulkerlaw10_plain.mono _ _ _ _ _)
   | (with_reducible exact caulkerlaw10_small.mono _ _)
   | (with_reducible exact caulkerlaw10_sorts.mono _)
   | (with_reducible exact caulkerref07_Right.mono _ _ _ _ _)
   | (with_reducible exact kind_Mark.mono _ _ _ _ _ _ _)
   | (with_reducible exact kind_With.mono _ _ _ _ _ _)
   | (with_reducible exact LeO.refl _)
   | (with_reducible exact LeO.none _)
   | (with_reducible refine LeO.ite ?_ ?_)
   | (with_reducible refine LeO.bind ?_ (fun _ => ?_))
   | exact ih0 _ _ _ _ _ _ _ _ _ _ _ _ _ _ _ _ _
   | exact ih1 _ _ _ _ _ _ _ _ _ _
   | exact ih2 _ _ _ _ _ _ _ _ _ _ _
   | exact caulkerlaw10_plain.mono _ _ _ _ _
   | exact caulkerlaw10_small.mono _ _
   | exact caulkerlaw10_sorts.mono _
   | exact caulkerref07_Right.mono _ _ _ _ _
   | exact kind_Mark.mono _ _ _ _ _ _ _
   | exact kind_With.mono _ _ _ _ _ _
   | exact LeO.none _
   | refine LeO.ite ?_ ?_
   | refine LeO.bind ?_ (fun _ => ?_)
  ·intro y0 y1 y2 y3 y4 y5 y6 y7 y8 y9 y10
   unfold caulkerlaw10_KindMarks.j2
   repeat' first
   | (with_reducible exact ih0 _ _ _ _ _ _ _ _ _ _ _ _ _ _ _ _ _)
   | (with_reducible exact ih1 _ _ _ _ _ _ _ _ _ _)
   | (with_reducible exact ih2 _ _ _ _ _ _ _ _ _ _ _)
   | (with_reducible exact caulkerlaw10_plain.mono _ _ _ _ _)
   | (with_reducible exact caulkerlaw10_small.mono _ _)
   | (with_reducible exact caulkerlaw10_sorts.mono _)
   | (with_reducible exact caulkerref07_Right.mono _ _ _ _ _)
   | (with_reducible exact kind_Mark.mono _ _ _ _ _ _ _)
   | (with_reducible exact kind_With.mono _ _ _ _ _ _)
   | (with_reducible exact LeO.refl _)
   | (with_reducible exact LeO.none _)
   | (with_reducible refine LeO.ite ?_ ?_)
   | (with_reducible refine LeO.bind ?_ (fun _ => ?_))
   | exact ih0 _ _ _ _ _ _ _ _ _ _ _ _ _ _ _ _ _
   | exact ih1 _ _ _ _ _ _ _ _ _ _
   | exact ih2 _ _ _ _ _ _ _ _ _ _ _
   | exact caulkerlaw10_plain.mono _ _ _ _ _
   | exact caulkerlaw10_small.mono _ _
   | exact caulkerlaw10_sorts.mono _
   | exact caulkerref07_Right.mono _ _ _ _ _
   | exact kind_Mark.mono _ _ _ _ _ _ _
   | exact kind_With.mono _ _ _ _ _ _
   | exact LeO.none _
   | refine LeO.ite ?_ ?_
   | refine LeO.bind ?_ (fun _ => ?_)
theorem caulkerlaw10_KindMarks.mono : ∀ a0 a1 a2 a3 a4 a5 k, LeO (caulkerlaw10_KindMarks.f k a0 a1 a2 a3 a4 a5) (caulkerlaw10_KindMarks.f (k + 1) a0 a1 a2 a3 a4 a5) := by
 intro a0 a1 a2 a3 a4 a5 k
 obtain ⟨ih0, ih1, ih2⟩ := caulkerlaw10_KindMarks.mono_l k
 unfold caulkerlaw10_KindMarks.f
 repeat' first
   | (with_reducible exact ih0 _ _ _ _ _ _ _ _ _ _ _ _ _ _ _ _ _)
   | (with_reducible exact ih1 _ _ _ _ _ _ _ _ _ _)
   | (with_reducible exact ih2 _ _ _ _ _ _ _ _ _ _ _)
   | (with_reducible exact caulkerlaw10_plain.mono _ _ _ _ _)
   | (with_reducible exact caulkerlaw10_small.mono _ _)
   | (with_reducible exact caulkerlaw10_sorts.mono _)
   | (with_reducible exact caulkerref07_Right.mono _ _ _ _ _)
   | (with_reducible exact kind_Mark.mono _ _ _ _ _ _ _)
   | (with_reducible exact kind_With.mono _ _ _ _ _ _)
   | (with_reducible exact LeO.refl _)
   | (with_reducible exact LeO.none _)
   | (with_reducible refine LeO.ite ?_ ?_)
   | (with_reducible refine LeO.bind ?_ (fun _ => ?_))
   | exact ih0 _ _ _ _ _ _ _ _ _ _ _ _ _ _ _ _ _
   | exact ih1 _ _ _ _ _ _ _ _ _ _
   | exact ih2 _ _ _ _ _ _ _ _ _ _ _
   | exact caulkerlaw10_plain.mono _ _ _ _ _
   | exact caulkerlaw10_small.mono _ _
   | exact caulkerlaw10_sorts.mono _
   | exact caulkerref07_Right.mono _ _ _ _ _
   | exact kind_Mark.mono _ _ _ _ _ _ _
   | exact kind_With.mono _ _ _ _ _ _
   | exact LeO.none _
   | refine LeO.ite ?_ ?_
   | refine LeO.bind ?_ (fun _ => ?_)
def caulkerlaw10_KindMarks.T13 : Bool × List (List Nat × List Nat) := (true, [([], []), ([0], [0]), ([], []), ([1, 2], [1, 2]), ([], []), ([4], [4]), ([5], [5]), ([3, 6], [3, 6]), ([], []), ([8], [8]), ([], []), ([10], [10]), ([9, 11], [9, 11]), ([7, 12], [7, 12]), ([0, 1, 2, 3, 4, 5, 6, 7, 8, 9, 10, 11, 12, 13], []), ([14, 13, 0, 1, 2, 3, 4, 5, 6, 7, 8, 9, 10, 11, 12, 13], [13, 14])])
def caulkerlaw10_KindMarks.B13 : List Nat := [0, 1, 0, 7, 0, 16, 48, 127, 0, 256, 0, 1024, 3840, 8191, 16383, 32767]
theorem caulkerlaw10_KindMarks.tab13 : rtab .any (opsOf Try.f4 13) = caulkerlaw10_KindMarks.T13 := by kernel_rfl
theorem caulkerlaw10_KindMarks.bits13 : waitsOk caulkerlaw10_KindMarks.T13.2 caulkerlaw10_KindMarks.B13 = true := by kernel_rfl
def caulkerlaw10_KindMarks.T19 : Bool × List (List Nat × List Nat) := (true, [([], []), ([0], [0]), ([], []), ([2], [2]), ([1, 3], [1, 3]), ([], []), ([5], [5]), ([6], [6]), ([4, 7], [4, 7]), ([0, 1, 2, 3, 4, 5, 6, 7, 8], []), ([9, 8, 0, 1, 2, 3, 4, 5, 6, 7, 8], [8, 9])])
def caulkerlaw10_KindMarks.B19 : List Nat := [0, 1, 0, 4, 15, 0, 32, 96, 255, 511, 1023]
theorem caulkerlaw10_KindMarks.tab19 : rtab .any (opsOf Try.f4 19) = caulkerlaw10_KindMarks.T19 := by kernel_rfl
theorem caulkerlaw10_KindMarks.bits19 : waitsOk caulkerlaw10_KindMarks.T19.2 caulkerlaw10_KindMarks.B19 = true := by kernel_rfl
set_option maxHeartbeats 8000000 in
set_option maxRecDepth 100000 in
theorem caulkerlaw10_KindMarks.calls (k : Nat) (a0_0 : Int) (a0_1 : ByteArray) (a0_2 : Int) (a0_3 : ByteArray) (a1 : Int) (a2 : Int) (r : Bool) (w : World) (h : caulkerlaw10_KindMarks.f k a0_0 a0_1 a0_2 a0_3 a1 a2 = some r) :
  Calls Try.prog 4 #[.agg #[.int .i64 a0_0, .string a0_1, .int .i64 a0_2, .string a0_3], .int .i64 a1, .int .u8 a2] w fun e w' => e = .returned (.bool r) ∧ Below w.heap.size w w' := by
 have hu23 := Try.underlying23
 have HB := Aside0.mk (Below.refl w.heap.size w)
 have H : ((caulkerlaw10_sorts.f k).bind fun t251 => (if t251 = true then ((caulkerlaw10_small.f k (([(⟨a0_0, a0_1, a0_2, a0_3⟩ : S23)] : List (S23)))).bind fun t255 => (if t255 = true then ((kind_Mark.f k a0_0 a0_1 a0_2 a0_3 a1 a2).bind fun bt256 => ((kind_With.f k a0_0 a0_1 a0_2 a0_3 a2).bind fun bt262 => ((caulkerlaw10_plain.f k a0_0 a0_1 a0_2 a0_3).bind fun t268 => (if t268 = true then (if a1 < 0 then (caulkerlaw10_KindMarks.j0 k a1 a2 bt256.2.2.2.2 bt262.2.2.2.2 true a0_0 a0_1 a0_2 a0_3 bt256.1 bt256.2.1 bt256.2.2.1 bt256.2.2.2.1 bt262.1 bt262.2.1 bt262.2.2.1 bt262.2.2.2.1) else (caulkerlaw10_KindMarks.j0 k a1 a2 bt256.2.2.2.2 bt262.2.2.2.2 (decide (a1 > a0_2)) a0_0 a0_1 a0_2 a0_3 bt256.1 bt256.2.1 bt256.2.2.1 bt256.2.2.2.1 bt262.1 bt262.2.1 bt262.2.2.1 bt262.2.2.2.1)) else (if bt256.2.2.2.2 = 130 then (if bt262.2.2.2.2 = 130 then (if (bt256.1 == 0 && (bt256.2.1.toList == ([] : List UInt8) && (bt256.2.2.1 == 0 && (bt256.2.2.2.1.toList == ([] : List UInt8))))) = true then (some (bt262.1 == 0 && (bt262.2.1.toList == ([] : List UInt8) && (bt262.2.2.1 == 0 && (bt262.2.2.2.1.toList == ([] : List UInt8)))))) else (none)) else (none)) else (none)))))) else (some true))) else (none))) = some r := h
 clear h
 replace H := Option.bind_eq_some_iff.mp H
 obtain ⟨t251, A40, H⟩ := H
 replace H : (if t251 = true then ((caulkerlaw10_small.f k (([(⟨a0_0, a0_1, a0_2, a0_3⟩ : S23)] : List (S23)))).bind fun t255 => (if t255 = true then ((kind_Mark.f k a0_0 a0_1 a0_2 a0_3 a1 a2).bind fun bt256 => ((kind_With.f k a0_0 a0_1 a0_2 a0_3 a2).bind fun bt262 => ((caulkerlaw10_plain.f k a0_0 a0_1 a0_2 a0_3).bind fun t268 => (if t268 = true then (if a1 < 0 then (caulkerlaw10_KindMarks.j0 k a1 a2 bt256.2.2.2.2 bt262.2.2.2.2 true a0_0 a0_1 a0_2 a0_3 bt256.1 bt256.2.1 bt256.2.2.1 bt256.2.2.2.1 bt262.1 bt262.2.1 bt262.2.2.1 bt262.2.2.2.1) else (caulkerlaw10_KindMarks.j0 k a1 a2 bt256.2.2.2.2 bt262.2.2.2.2 (decide (a1 > a0_2)) a0_0 a0_1 a0_2 a0_3 bt256.1 bt256.2.1 bt256.2.2.1 bt256.2.2.2.1 bt262.1 bt262.2.1 bt262.2.2.1 bt262.2.2.2.1)) else (if bt256.2.2.2.2 = 130 then (if bt262.2.2.2.2 = 130 then (if (bt256.1 == 0 && (bt256.2.1.toList == ([] : List UInt8) && (bt256.2.2.1 == 0 && (bt256.2.2.2.1.toList == ([] : List UInt8))))) = true then (some (bt262.1 == 0 && (bt262.2.1.toList == ([] : List UInt8) && (bt262.2.2.1 == 0 && (bt262.2.2.2.1.toList == ([] : List UInt8)))))) else (none)) else (none)) else (none)))))) else (some true))) else (none)) = some r := H
 have A4 := Aside0.mk A40
 clear A40
 by_cases c5 : t251 = true
 ·subst c5
  have H1 : ((caulkerlaw10_small.f k (([(⟨a0_0, a0_1, a0_2, a0_3⟩ : S23)] : List (S23)))).bind fun t255 => (if t255 = true then ((kind_Mark.f k a0_0 a0_1 a0_2 a0_3 a1 a2).bind fun bt256 => ((kind_With.f k a0_0 a0_1 a0_2 a0_3 a2).bind fun bt262 => ((caulkerlaw10_plain.f k a0_0 a0_1 a0_2 a0_3).bind fun t268 => (if t268 = true then (if a1 < 0 then (caulkerlaw10_KindMarks.j0 k a1 a2 bt256.2.2.2.2 bt262.2.2.2.2 true a0_0 a0_1 a0_2 a0_3 bt256.1 bt256.2.1 bt256.2.2.1 bt256.2.2.2.1 bt262.1 bt262.2.1 bt262.2.2.1 bt262.2.2.2.1) else (caulkerlaw10_KindMarks.j0 k a1 a2 bt256.2.2.2.2 bt262.2.2.2.2 (decide (a1 > a0_2)) a0_0 a0_1 a0_2 a0_3 bt256.1 bt256.2.1 bt256.2.2.1 bt256.2.2.2.1 bt262.1 bt262.2.1 bt262.2.2.1 bt262.2.2.2.1)) else (if bt256.2.2.2.2 = 130 then (if bt262.2.2.2.2 = 130 then (if (bt256.1 == 0 && (bt256.2.1.toList == ([] : List UInt8) && (bt256.2.2.1 == 0 && (bt256.2.2.2.1.toList == ([] : List UInt8))))) = true then (some (bt262.1 == 0 && (bt262.2.1.toList == ([] : List UInt8) && (bt262.2.2.1 == 0 && (bt262.2.2.2.1.toList == ([] : List UInt8)))))) else (none)) else (none)) else (none)))))) else (some true))) = some r := by rw [if_pos rfl] at H; exact H
  clear H
  have H := H1
  clear H1
  obtain ⟨y252, hy252⟩ : ∃ y_ : List (S23), y_ = (([(⟨a0_0, a0_1, a0_2, a0_3⟩ : S23)] : List (S23))) := ⟨_, rfl⟩
  replace H : ((caulkerlaw10_small.f k y252).bind fun t255 => (if t255 = true then ((kind_Mark.f k a0_0 a0_1 a0_2 a0_3 a1 a2).bind fun bt256 => ((kind_With.f k a0_0 a0_1 a0_2 a0_3 a2).bind fun bt262 => ((caulkerlaw10_plain.f k a0_0 a0_1 a0_2 a0_3).bind fun t268 => (if t268 = true then (if a1 < 0 then (caulkerlaw10_KindMarks.j0 k a1 a2 bt256.2.2.2.2 bt262.2.2.2.2 true a0_0 a0_1 a0_2 a0_3 bt256.1 bt256.2.1 bt256.2.2.1 bt256.2.2.2.1 bt262.1 bt262.2.1 bt262.2.2.1 bt262.2.2.2.1) else (caulkerlaw10_KindMarks.j0 k a1 a2 bt256.2.2.2.2 bt262.2.2.2.2 (decide (a1 > a0_2)) a0_0 a0_1 a0_2 a0_3 bt256.1 bt256.2.1 bt256.2.2.1 bt256.2.2.2.1 bt262.1 bt262.2.1 bt262.2.2.1 bt262.2.2.2.1)) else (if bt256.2.2.2.2 = 130 then (if bt262.2.2.2.2 = 130 then (if (bt256.1 == 0 && (bt256.2.1.toList == ([] : List UInt8) && (bt256.2.2.1 == 0 && (bt256.2.2.2.1.toList == ([] : List UInt8))))) = true then (some (bt262.1 == 0 && (bt262.2.1.toList == ([] : List UInt8) && (bt262.2.2.1 == 0 && (bt262.2.2.2.1.toList == ([] : List UInt8)))))) else (none)) else (none)) else (none)))))) else (some true))) = some r := by first | (rw [hy252]; with_reducible exact H) | (have H2_ := (Option.bind_some _ _).symm.trans H; rw [hy252]; with_reducible exact H2_) | (have H2_ := (Option.bind_some _ _).symm.trans H; with_reducible exact H2_) | with_reducible exact H | (rw [hy252]; exact H) | exact H
  have Ny252 := Aside0.mk hy252
  clear hy252
  replace H := Option.bind_eq_some_iff.mp H
  obtain ⟨t255, A60, H⟩ := H
  replace H : (if t255 = true then ((kind_Mark.f k a0_0 a0_1 a0_2 a0_3 a1 a2).bind fun bt256 => ((kind_With.f k a0_0 a0_1 a0_2 a0_3 a2).bind fun bt262 => ((caulkerlaw10_plain.f k a0_0 a0_1 a0_2 a0_3).bind fun t268 => (if t268 = true then (if a1 < 0 then (caulkerlaw10_KindMarks.j0 k a1 a2 bt256.2.2.2.2 bt262.2.2.2.2 true a0_0 a0_1 a0_2 a0_3 bt256.1 bt256.2.1 bt256.2.2.1 bt256.2.2.2.1 bt262.1 bt262.2.1 bt262.2.2.1 bt262.2.2.2.1) else (caulkerlaw10_KindMarks.j0 k a1 a2 bt256.2.2.2.2 bt262.2.2.2.2 (decide (a1 > a0_2)) a0_0 a0_1 a0_2 a0_3 bt256.1 bt256.2.1 bt256.2.2.1 bt256.2.2.2.1 bt262.1 bt262.2.1 bt262.2.2.1 bt262.2.2.2.1)) else (if bt256.2.2.2.2 = 130 then (if bt262.2.2.2.2 = 130 then (if (bt256.1 == 0 && (bt256.2.1.toList == ([] : List UInt8) && (bt256.2.2.1 == 0 && (bt256.2.2.2.1.toList == ([] : List UInt8))))) = true then (some (bt262.1 == 0 && (bt262.2.1.toList == ([] : List UInt8) && (bt262.2.2.1 == 0 && (bt262.2.2.2.1.toList == ([] : List UInt8)))))) else (none)) else (none)) else (none)))))) else (some true)) = some r := H
  have A6 := Aside0.mk A60
  clear A60
  by_cases c7 : t255 = true
  ·subst c7
   have H1 : ((kind_Mark.f k a0_0 a0_1 a0_2 a0_3 a1 a2).bind fun bt256 => ((kind_With.f k a0_0 a0_1 a0_2 a0_3 a2).bind fun bt262 => ((caulkerlaw10_plain.f k a0_0 a0_1 a0_2 a0_3).bind fun t268 => (if t268 = true then (if a1 < 0 then (caulkerlaw10_KindMarks.j0 k a1 a2 bt256.2.2.2.2 bt262.2.2.2.2 true a0_0 a0_1 a0_2 a0_3 bt256.1 bt256.2.1 bt256.2.2.1 bt256.2.2.2.1 bt262.1 bt262.2.1 bt262.2.2.1 bt262.2.2.2.1) else (caulkerlaw10_KindMarks.j0 k a1 a2 bt256.2.2.2.2 bt262.2.2.2.2 (decide (a1 > a0_2)) a0_0 a0_1 a0_2 a0_3 bt256.1 bt256.2.1 bt256.2.2.1 bt256.2.2.2.1 bt262.1 bt262.2.1 bt262.2.2.1 bt262.2.2.2.1)) else (if bt256.2.2.2.2 = 130 then (if bt262.2.2.2.2 = 130 then (if (bt256.1 == 0 && (bt256.2.1.toList == ([] : List UInt8) && (bt256.2.2.1 == 0 && (bt256.2.2.2.1.toList == ([] : List UInt8))))) = true then (some (bt262.1 == 0 && (bt262.2.1.toList == ([] : List UInt8) && (bt262.2.2.1 == 0 && (bt262.2.2.2.1.toList == ([] : List UInt8)))))) else (none)) else (none)) else (none)))))) = some r := by rw [if_pos rfl] at H; exact H
   clear H
   have H := H1
   clear H1
   replace H := Option.bind_eq_some_iff.mp H
   obtain ⟨⟨t256, t257, t258, t259, t260⟩, A80, H⟩ := H
   replace H : ((kind_With.f k a0_0 a0_1 a0_2 a0_3 a2).bind fun bt262 => ((caulkerlaw10_plain.f k a0_0 a0_1 a0_2 a0_3).bind fun t268 => (if t268 = true then (if a1 < 0 then (caulkerlaw10_KindMarks.j0 k a1 a2 t260 bt262.2.2.2.2 true a0_0 a0_1 a0_2 a0_3 t256 t257 t258 t259 bt262.1 bt262.2.1 bt262.2.2.1 bt262.2.2.2.1) else (caulkerlaw10_KindMarks.j0 k a1 a2 t260 bt262.2.2.2.2 (decide (a1 > a0_2)) a0_0 a0_1 a0_2 a0_3 t256 t257 t258 t259 bt262.1 bt262.2.1 bt262.2.2.1 bt262.2.2.2.1)) else (if t260 = 130 then (if bt262.2.2.2.2 = 130 then (if (t256 == 0 && (t257.toList == ([] : List UInt8) && (t258 == 0 && (t259.toList == ([] : List UInt8))))) = true then (some (bt262.1 == 0 && (bt262.2.1.toList == ([] : List UInt8) && (bt262.2.2.1 == 0 && (bt262.2.2.2.1.toList == ([] : List UInt8)))))) else (none)) else (none)) else (none))))) = some r := H
   have A8 := Aside0.mk A80
   clear A80
   replace H := Option.bind_eq_some_iff.mp H
   obtain ⟨⟨t262, t263, t264, t265, t266⟩, A90, H⟩ := H
   replace H : ((caulkerlaw10_plain.f k a0_0 a0_1 a0_2 a0_3).bind fun t268 => (if t268 = true then (if a1 < 0 then (caulkerlaw10_KindMarks.j0 k a1 a2 t260 t266 true a0_0 a0_1 a0_2 a0_3 t256 t257 t258 t259 t262 t263 t264 t265) else (caulkerlaw10_KindMarks.j0 k a1 a2 t260 t266 (decide (a1 > a0_2)) a0_0 a0_1 a0_2 a0_3 t256 t257 t258 t259 t262 t263 t264 t265)) else (if t260 = 130 then (if t266 = 130 then (if (t256 == 0 && (t257.toList == ([] : List UInt8) && (t258 == 0 && (t259.toList == ([] : List UInt8))))) = true then (some (t262 == 0 && (t263.toList == ([] : List UInt8) && (t264 == 0 && (t265.toList == ([] : List UInt8)))))) else (none)) else (none)) else (none)))) = some r := H
   have A9 := Aside0.mk A90
   clear A90
   replace H := Option.bind_eq_some_iff.mp H
   obtain ⟨t268, A100, H⟩ := H
   replace H : (if t268 = true then (if a1 < 0 then (caulkerlaw10_KindMarks.j0 k a1 a2 t260 t266 true a0_0 a0_1 a0_2 a0_3 t256 t257 t258 t259 t262 t263 t264 t265) else (caulkerlaw10_KindMarks.j0 k a1 a2 t260 t266 (decide (a1 > a0_2)) a0_0 a0_1 a0_2 a0_3 t256 t257 t258 t259 t262 t263 t264 t265)) else (if t260 = 130 then (if t266 = 130 then (if (t256 == 0 && (t257.toList == ([] : List UInt8) && (t258 == 0 && (t259.toList == ([] : List UInt8))))) = true then (some (t262 == 0 && (t263.toList == ([] : List UInt8) && (t264 == 0 && (t265.toList == ([] : List UInt8)))))) else (none)) else (none)) else (none))) = some r := H
   have A10 := Aside0.mk A100
   clear A100
   by_cases c11 : t268 = true
   ·subst c11
    have H1 : (if a1 < 0 then (caulkerlaw10_KindMarks.j0 k a1 a2 t260 t266 true a0_0 a0_1 a0_2 a0_3 t256 t257 t258 t259 t262 t263 t264 t265) else (caulkerlaw10_KindMarks.j0 k a1 a2 t260 t266 (decide (a1 > a0_2)) a0_0 a0_1 a0_2 a0_3 t256 t257 t258 t259 t262 t263 t264 t265)) = some r := by rw [if_pos rfl] at H; exact H
    clear H
    have H := H1
    clear H1
    have HC12 := Aside0.mk H
    clear H
    go_enter Try.func4, Try.ntmps4
    go_upto_region 9 with (first | ((with_reducible refine gate_dst (N := 3) rfl ?_); refine box_event ?hg (N := 3) ?hd (cs := #[.int .i64 a0_0, .string a0_1, .int .i64 a0_2, .string a0_3]) (t := 23) ?hr ?_; (case hd => rfl); (case hg => rfl); (case hr => first | (go_simp; done) | (go_simp; rfl)); intro gb250 hg w13 hbox hb; have BK250 := Aside0.mk (hbox); have GW250 := pxw HB hg; have GE250 := pxw HB hg; replace HB := pxs HB hb; clear hb hbox hg) | ((with_reducible refine gate_callee (f := 9) rfl ?_); refine goesL_ (some 13) rfl rfl Try.func9 (by kernel_rfl) rfl #[] rfl (by (try simp only [List.map_toArray, List.map_cons, List.map_nil]); first | done | rfl | (simp only [List.length_drop, List.length_take]; rfl)) ?_; (with_reducible refine (caulkerlaw10_sorts.calls k  true _ A4.out).mono ?_); rintro e w14 ⟨rfl, hb⟩; refine ⟨_, rfl, ?_⟩; replace BK250 := pxk BK250 hb; replace HB := pxs HB hb; (try clear hb); (try clear hb2); (try clear hk); (try clear hi); obtain ⟨hcz15_0, hcz15_1, hcz15_2, hcz15_3, hfz15_0, hfz15_1, hfz15_2, hfz15_3⟩ := pxf4 BK250) | ((with_reducible refine gate_dst (N := 16) rfl ?_); refine Kd.R_lit k23 _ 23 ?hg (N := 16) ?hd (xs := ([(⟨a0_0, a0_1, a0_2, a0_3⟩ : S23)] : List (S23))) (inner := [.int .i64 a0_0, .string a0_1, .int .i64 a0_2, .string a0_3]) (ok := fun _ => True) (okp := fun _ => True) ?hr ?hp (fun _ hk => hk) trivial (Below.refl _ _) (Nat.le_refl _) (by simp) ?_; (case hd => rfl); (case hg => rfl); (case hr => first | (go_simp; done) | (go_simp; rfl)); (case hp => exact (Reps.c4 (show Kd.M k23 _ _ _ (⟨a0_0, a0_1, a0_2, a0_3⟩ : S23) [.int .i64 a0_0, .string a0_1, .int .i64 a0_2, .string a0_3] from (k23_mkM _ _ _ (⟨a0_0, a0_1, a0_2, a0_3⟩ : S23) )) (Reps.none _ _))); intro v253 w16 ho17 hb hg_ hnew_; clear hg_ hnew_; (first | rw [← Ny252.out] at ho17 | (simp only [Int.reduceToNat] at ho17; rw [← Ny252.out] at ho17)); have HO254 := Aside0.mk (Kd.R_lower (Kd.R_newB ho17 (g := gb250) (o := .cells #[.int .i64 a0_0, .string a0_1, .int .i64 a0_2, .string a0_3] 23 (0, 0)) (pxq BK250)) (below_size (pxb HB))); replace BK250 := pxk BK250 hb; replace HB := pxs HB hb; clear hb ho17; obtain ⟨Ao18, co18, eo18⟩ := Kd.R_slice HO254.out; subst eo18) | ((with_reducible refine gate_callee (f := 10) rfl ?_); refine goesL_ (some 17) rfl rfl Try.func10 (by kernel_rfl) rfl #[.slice Ao18 y252.length co18] rfl (by (try simp only [List.map_toArray, List.map_cons, List.map_nil]); first | done | rfl | (simp only [List.length_drop, List.length_take]; rfl)) ?_; (with_reducible refine (caulkerlaw10_small.calls k _ _ y252 true _ ?side1 ?side2 A6.out).mono ?_); (case side1 => repeat (first | exact (Kd.R_reads' HO254.out).2.2 | (with_reducible refine Kd.C_alloc ?_ _) | (with_reducible refine Kd.C_drewN ?_ _) | (with_reducible refine Kd.C_drew ?_))); (case side2 => exact (Kd.R_reads' HO254.out).2.1); rintro e w19 ⟨rfl, hb⟩; refine ⟨_, rfl, ?_⟩; replace HO254 := Aside0.mk (Kd.R_below (pxr HO254) hb); replace BK250 := pxk BK250 hb; replace HB := pxs HB hb; (try clear hb); (try clear hb2); (try clear hk); (try clear hi); obtain ⟨hcz20_0, hcz20_1, hcz20_2, hcz20_3, hfz20_0, hfz20_1, hfz20_2, hfz20_3⟩ := pxf4 BK250) | ((with_reducible refine gate_callee (f := 15) rfl ?_); refine goesL_ (some 23) rfl rfl Try.func15 (by kernel_rfl) rfl #[.agg #[.int .i64 a0_0, .string a0_1, .int .i64 a0_2, .string a0_3], .int .i64 a1, .int .u8 a2] rfl (by (try simp only [List.map_toArray, List.map_cons, List.map_nil]); first | done | rfl | (simp only [List.length_drop, List.length_take]; rfl)) ?_; (with_reducible refine (kind_Mark.calls k a0_0 a0_1 a0_2 a0_3 a1 a2 t256 t257 t258 t259 t260 _ A8.out).mono ?_); rintro e w21 ⟨rfl, hb⟩; refine ⟨_, rfl, ?_⟩; replace HO254 := Aside0.mk (Kd.R_below (pxr HO254) hb); replace BK250 := pxk BK250 hb; replace HB := pxs HB hb; (try clear hb); (try clear hb2); (try clear hk); (try clear hi)) | ((with_reducible refine gate_dst (N := 7) rfl ?_); refine box_event ?hg (N := 7) ?hd (cs := #[.int .i64 0, .string (⟨#[]⟩ : ByteArray), .int .i64 0, .string (⟨#[]⟩ : ByteArray)]) (t := 23) ?hr ?_; (case hd => rfl); (case hg => rfl); (case hr => first | (go_simp; done) | (go_simp; rfl)); intro gb261 hg w22 hbox hb; have BK261 := Aside0.mk (hbox); have GW261 := pxw HB hg; have GE261 := pxw HB hg; have NB250_261 := pxn BK250 hg; have NB261_250 := Aside0.mk (pxn BK250 hg).out.symm; replace HO254 := Aside0.mk (Kd.R_below (Kd.R_elderB (pxr HO254) gb261 (Nat.le_of_eq hg.symm)) hb); replace BK250 := pxk BK250 hb; replace HB := pxs HB hb; clear hb hbox hg; have hnb23 := NB261_250.out; have hnc23 := NB250_261.out; obtain ⟨hcz24_0, hcz24_1, hcz24_2, hcz24_3, hfz24_0, hfz24_1, hfz24_2, hfz24_3⟩ := pxf4 BK261; obtain ⟨hcz25_0, hcz25_1, hcz25_2, hcz25_3, hfz25_0, hfz25_1, hfz25_2, hfz25_3⟩ := pxf4 BK250) | ((with_reducible refine gate_callee (f := 16) rfl ?_); refine goesL_ (some 29) rfl rfl Try.func16 (by kernel_rfl) rfl #[.agg #[.int .i64 a0_0, .string a0_1, .int .i64 a0_2, .string a0_3], .int .u8 a2] rfl (by (try simp only [List.map_toArray, List.map_cons, List.map_nil]); first | done | rfl | (simp only [List.length_drop, List.length_take]; rfl)) ?_; (with_reducible refine (kind_With.calls k a0_0 a0_1 a0_2 a0_3 a2 t262 t263 t264 t265 t266 _ A9.out).mono ?_); rintro e w26 ⟨rfl, hb⟩; refine ⟨_, rfl, ?_⟩; replace HO254 := Aside0.mk (Kd.R_below (by (with_reducible repeat (first | apply Kd.R_alloc | apply Kd.R_drewN | apply Kd.R_drew)); exact (Kd.R_mono (Kd.R_far (p := ⟨gb261, 3, none⟩) (Kd.R_far (p := ⟨gb261, 2, none⟩) (Kd.R_far (p := ⟨gb261, 1, none⟩) (Kd.R_far (p := ⟨gb261, 0, none⟩) (Kd.R_mono HO254.out (fun k_ hk => (⟨hk, hk.2⟩ : _ ∧ k_ ≠ gb261))) (fun _ hk => hk.2) (.int .i64 t256)) (fun _ hk => hk.2) (.string t257)) (fun _ hk => hk.2) (.int .i64 t258)) (fun _ hk => hk.2) (.string t259)) (fun _ h_ => h_.1))) hb); replace BK250 := Aside0.mk (blk_below (g := gb250) (o := .cells #[.int .i64 a0_0, .string a0_1, .int .i64 a0_2, .string a0_3] 23 (0, 0)) (pxp BK250) hb); replace BK261 := Aside0.mk (blk_below (g := gb261) (o := .cells #[.int .i64 t256, .string t257, .int .i64 t258, .string t259] 23 (0, 0)) (pxp BK261) hb); replace HB := pxs HB hb; (try clear hb); (try clear hb2); (try clear hk); (try clear hi)) | ((with_reducible refine gate_dst (N := 9) rfl ?_); refine box_event ?hg (N := 9) ?hd (cs := #[.int .i64 0, .string (⟨#[]⟩ : ByteArray), .int .i64 0, .string (⟨#[]⟩ : ByteArray)]) (t := 23) ?hr ?_; (case hd => rfl); (case hg => rfl); (case hr => first | (go_simp; done) | (go_simp; rfl)); intro gb267 hg w27 hbox hb; have BK267 := Aside0.mk (hbox); have GW267 := pxw HB hg; have GE267 := pxw HB hg; have NB250_267 := pxn BK250 hg; have NB267_250 := Aside0.mk (pxn BK250 hg).out.symm; have NB261_267 := pxn BK261 hg; have NB267_261 := Aside0.mk (pxn BK261 hg).out.symm; replace HO254 := Aside0.mk (Kd.R_below (Kd.R_elderB (pxr HO254) gb267 (Nat.le_of_eq hg.symm)) hb); replace BK250 := pxk BK250 hb; replace BK261 := pxk BK261 hb; replace HB := pxs HB hb; clear hb hbox hg; have hnb28 := NB267_250.out; have hnc28 := NB250_267.out; have hnb29 := NB267_261.out; have hnc29 := NB261_267.out; obtain ⟨hcz30_0, hcz30_1, hcz30_2, hcz30_3, hfz30_0, hfz30_1, hfz30_2, hfz30_3⟩ := pxf4 BK267; obtain ⟨hcz31_0, hcz31_1, hcz31_2, hcz31_3, hfz31_0, hfz31_1, hfz31_2, hfz31_3⟩ := pxf4 BK250) | ((with_reducible refine gate_callee (f := 17) rfl ?_); refine goesL_ (some 33) rfl rfl Try.func17 (by kernel_rfl) rfl #[.agg #[.int .i64 a0_0, .string a0_1, .int .i64 a0_2, .string a0_3]] rfl (by (try simp only [List.map_toArray, List.map_cons, List.map_nil]); first | done | rfl | (simp only [List.length_drop, List.length_take]; rfl)) ?_; (with_reducible refine (caulkerlaw10_plain.calls k a0_0 a0_1 a0_2 a0_3 true _ A10.out).mono ?_); rintro e w32 ⟨rfl, hb⟩; refine ⟨_, rfl, ?_⟩; replace HO254 := Aside0.mk (Kd.R_below (by (with_reducible repeat (first | apply Kd.R_alloc | apply Kd.R_drewN | apply Kd.R_drew)); exact (Kd.R_mono (Kd.R_far (p := ⟨gb267, 3, none⟩) (Kd.R_far (p := ⟨gb267, 2, none⟩) (Kd.R_far (p := ⟨gb267, 1, none⟩) (Kd.R_far (p := ⟨gb267, 0, none⟩) (Kd.R_mono HO254.out (fun k_ hk => (⟨hk, hk.2⟩ : _ ∧ k_ ≠ gb267))) (fun _ hk => hk.2) (.int .i64 t262)) (fun _ hk => hk.2) (.string t263)) (fun _ hk => hk.2) (.int .i64 t264)) (fun _ hk => hk.2) (.string t265)) (fun _ h_ => h_.1))) hb); replace BK250 := Aside0.mk (blk_below (g := gb250) (o := .cells #[.int .i64 a0_0, .string a0_1, .int .i64 a0_2, .string a0_3] 23 (0, 0)) (pxp BK250) hb); replace BK261 := Aside0.mk (blk_below (g := gb261) (o := .cells #[.int .i64 t256, .string t257, .int .i64 t258, .string t259] 23 (0, 0)) (pxp BK261) hb); replace BK267 := Aside0.mk (blk_below (g := gb267) (o := .cells #[.int .i64 t262, .string t263, .int .i64 t264, .string t265] 23 (0, 0)) (pxp BK267) hb); replace HB := pxs HB hb; (try clear hb); (try clear hb2); (try clear hk); (try clear hi)))
    (try simp only [Act.put, List.setIfInBounds_toArray, List.set_cons_zero, List.set_cons_succ])
    go_cut [58] (fun v58 wc => ∃ (kq : Nat) (x58_11 : Bool), v58 = .bool x58_11 ∧ Aside0 (caulkerlaw10_KindMarks.j0 kq a1 a2 t260 t266 x58_11 a0_0 a0_1 a0_2 a0_3 t256 t257 t258 t259 t262 t263 t264 t265 = some r) ∧ Aside0 (kq ≤ k) ∧ Aside0 (wc.heap[gb250]? = some (.cells #[.int .i64 a0_0, .string a0_1, .int .i64 a0_2, .string a0_3] 23 (0, 0))) ∧ Aside0 (wc.heap[gb261]? = some (.cells #[.int .i64 t256, .string t257, .int .i64 t258, .string t259] 23 (0, 0))) ∧ Aside0 (wc.heap[gb267]? = some (.cells #[.int .i64 t262, .string t263, .int .i64 t264, .string t265] 23 (0, 0))) ∧ Aside0 (Below w.heap.size w wc))
    case first =>
     have H := HC12.out
     clear HC12
     by_cases c33 : a1 < 0
     ·rw [if_pos c33] at H
      have c33b0 : decide (a1 < 0) = true := decide_eq_true c33
      clear c33
      (first | rw [c33b0] | (simp only [i64_w, i32_w]; rw [c33b0]) | skip)
      have H' := Aside0.mk H
      clear H
      go_wp2
      go_meet
      case rel => exact ⟨_, (true), (by first | rfl | (simp; done) | (simp [*]; done)), H', ⟨by first | omega | exact Nat.le_refl _⟩, ⟨pxq BK250⟩, ⟨pxq BK261⟩, ⟨pxq BK267⟩, ⟨pxb HB⟩⟩
     ·rw [if_neg c33] at H
      have c33b0 : decide (a1 < 0) = false := decide_eq_false c33
      clear c33
      (first | rw [c33b0] | (simp only [i64_w, i32_w]; rw [c33b0]) | skip)
      have H' := Aside0.mk H
      clear H
      have hnb34 := NB250_261.out
      have hnc34 := NB261_250.out
      have hnb35 := NB250_267.out
      have hnc35 := NB267_250.out
      have hcz36_0 : w32.cell? ⟨gb250, 0, none⟩ = some (.int .i64 a0_0) := (blk_cell BK250.out 0).trans rfl
      have hcz36_1 : w32.cell? ⟨gb250, 1, none⟩ = some (.string a0_1) := (blk_cell BK250.out 1).trans rfl
      have hcz36_2 : w32.cell? ⟨gb250, 2, none⟩ = some (.int .i64 a0_2) := (blk_cell BK250.out 2).trans rfl
      have hcz36_3 : w32.cell? ⟨gb250, 3, none⟩ = some (.string a0_3) := (blk_cell BK250.out 3).trans rfl
      have hfz36_0 := blk_frozen BK250.out 0
      have hfz36_1 := blk_frozen BK250.out 1
      have hfz36_2 := blk_frozen BK250.out 2
      have hfz36_3 := blk_frozen BK250.out 3
      go_wp2
      go_meet
      case rel => exact ⟨_, (decide (a1 > a0_2)), (by first | rfl | (simp; done) | (simp [*]; done)), H', ⟨by first | omega | exact Nat.le_refl _⟩, ⟨pxq BK250⟩, ⟨pxq BK261⟩, ⟨pxq BK267⟩, ⟨pxb HB⟩⟩
    case rest => as_aux_lemma =>
     clear HC12
     (try clear c1); (try clear c2); (try clear p2); (try clear c3); (try clear c4); (try clear c5); (try clear c7); (try clear c9); (try clear c10); (try clear c11); (try clear c15); (try clear c16); (try clear c17); (try clear c23); (try clear c28); (try clear c29); (try clear c33); (try clear c33b0); (try clear c34); (try clear c35); (try clear hcz15_0 hcz15_1 hcz15_2 hcz15_3 hfz15_0 hfz15_1 hfz15_2 hfz15_3); (try clear hcz20_0 hcz20_1 hcz20_2 hcz20_3 hfz20_0 hfz20_1 hfz20_2 hfz20_3); (try clear hcz24_0 hcz24_1 hcz24_2 hcz24_3 hfz24_0 hfz24_1 hfz24_2 hfz24_3); (try clear hcz25_0 hcz25_1 hcz25_2 hcz25_3 hfz25_0 hfz25_1 hfz25_2 hfz25_3); (try clear hcz30_0 hcz30_1 hcz30_2 hcz30_3 hfz30_0 hfz30_1 hfz30_2 hfz30_3); (try clear hcz31_0 hcz31_1 hcz31_2 hcz31_3 hfz31_0 hfz31_1 hfz31_2 hfz31_3); (try clear hcz36_0 hcz36_1 hcz36_2 hcz36_3 hfz36_0 hfz36_1 hfz36_2 hfz36_3)
     obtain ⟨kq, x58_11, rfl, HA, HJ11, BK250, BK261, BK267, HB⟩ := hcut
     cases kq with
     | zero => exact absurd HA.out (by simp [caulkerlaw10_KindMarks.j0])
     | succ kj11 =>
      have H := HA.out
      clear HA
      simp only [caulkerlaw10_KindMarks.j0] at H
      have HC37 := Aside0.mk H
      clear H
      go_upto_if 58 with (fail)
      go_cut [] (fun wc => ∃ (kq : Nat), Aside0 (caulkerlaw10_KindMarks.j1 kq a2 t266 a0_0 a0_1 a0_2 a0_3 t262 t263 t264 t265 = some r) ∧ Aside0 (kq ≤ kj11) ∧ Aside0 (wc.heap[gb250]? = some (.cells #[.int .i64 a0_0, .string a0_1, .int .i64 a0_2, .string a0_3] 23 (0, 0))) ∧ Aside0 (wc.heap[gb261]? = some (.cells #[.int .i64 t256, .string t257, .int .i64 t258, .string t259] 23 (0, 0))) ∧ Aside0 (wc.heap[gb267]? = some (.cells #[.int .i64 t262, .string t263, .int .i64 t264, .string t265] 23 (0, 0))) ∧ Aside0 (Below w.heap.size w wc))
      case first =>
       have H := HC37.out
       clear HC37
       by_cases c38 : x58_11 = true
       ·subst c38
        have H1 : (if t260 = 1 then (if (!(t256 == 0) || (!(t257.toList == ([] : List UInt8)) || (!(t258 == 0) || (!(t259.toList == ([] : List UInt8)))))) = true then (none) else (caulkerlaw10_KindMarks.j1 kj11 a2 t266 a0_0 a0_1 a0_2 a0_3 t262 t263 t264 t265)) else (none)) = some r := by rw [if_pos rfl] at H; exact H
        clear H
        have H := H1
        clear H1
        by_cases c39 : t260 = 1
        ·rw [if_pos c39] at H
         have c39b0 : (t260 == 1) = true := beq_iff_eq.mpr c39
         have c39b1 : (t260 != 1) = false := bne_eq_false_iff_eq.mpr c39
         clear c39
         (first | rw [c39b0] | (simp only [i64_w, i32_w]; rw [c39b0]) | skip)
         by_cases c40 : (!(t256 == 0) || (!(t257.toList == ([] : List UInt8)) || (!(t258 == 0) || (!(t259.toList == ([] : List UInt8)))))) = true
         ·rw [if_pos c40] at H
          exact absurd H (by simp)
         ·rw [if_neg c40] at H
          have c40b0 : (!(t256 == 0) || (!(t257.toList == ([] : List UInt8)) || (!(t258 == 0) || (!(t259.toList == ([] : List UInt8)))))) = false := by simpa using c40
          (try (have c40b0e : (!(t256 == 0) || (!(t257.toList.isEmpty) || (!(t258 == 0) || (!(t259.toList.isEmpty))))) = false := by simpa only [pxbeq, pxbne] using c40b0))
          clear c40
          have H' := Aside0.mk H
          clear H
          have hnb41 := NB261_250.out
          have hnc41 := NB250_261.out
          have hnb42 := NB261_267.out
          have hnc42 := NB267_261.out
          have hcz43_0 : wc.cell? ⟨gb261, 0, none⟩ = some (.int .i64 t256) := (blk_cell BK261.out 0).trans rfl
          have hcz43_1 : wc.cell? ⟨gb261, 1, none⟩ = some (.string t257) := (blk_cell BK261.out 1).trans rfl
          have hcz43_2 : wc.cell? ⟨gb261, 2, none⟩ = some (.int .i64 t258) := (blk_cell BK261.out 2).trans rfl
          have hcz43_3 : wc.cell? ⟨gb261, 3, none⟩ = some (.string t259) := (blk_cell BK261.out 3).trans rfl
          have hfz43_0 := blk_frozen BK261.out 0
          have hfz43_1 := blk_frozen BK261.out 1
          have hfz43_2 := blk_frozen BK261.out 2
          have hfz43_3 := blk_frozen BK261.out 3
          go_wp2
          go_meet
          case rel => exact ⟨_, H', ⟨by have := HJ11.out; first | omega | exact Nat.le_refl _⟩, ⟨pxq BK250⟩, ⟨pxq BK261⟩, ⟨pxq BK267⟩, ⟨pxb HB⟩⟩
        ·rw [if_neg c39] at H
         exact absurd H (by simp)
       ·replace c38 := Bool.eq_false_iff.mpr c38
        subst c38
        have H1 : (if 0 ≤ a1 then (if a1 ≤ (a0_3.size : Int) then ((some (([a2] : List Int) : List Int)).bind fun y270 => (if (a0_3.extract 0 (a1 : Int).toNat).size + (strOfNums y270).size ≤ 9223372036854775807 then (if 0 ≤ (wrap64 (a1 + 1)) then (if (wrap64 (a1 + 1)) ≤ (a0_3.size : Int) then (if ((a0_3.extract 0 (a1 : Int).toNat) ++ (strOfNums y270)).size + (a0_3.extract ((wrap64 (a1 + 1)) : Int).toNat a0_3.size).size ≤ 9223372036854775807 then ((caulkerref07_Right.f kj11 a0_0 a0_1 a0_2 (((a0_3.extract 0 (a1 : Int).toNat) ++ (strOfNums y270)) ++ (a0_3.extract ((wrap64 (a1 + 1)) : Int).toNat a0_3.size))).bind fun t273 => (if (t273 != (t260 == 0)) = true then (none) else (if t260 = 0 then (if (!(t256 == a0_0) || (!(t257.toList == a0_1.toList) || (!(t258 == a0_2) || (!(t259.toList == ((((a0_3.extract 0 (a1 : Int).toNat) ++ (strOfNums y270)) ++ (a0_3.extract ((wrap64 (a1 + 1)) : Int).toNat a0_3.size)).toList)))))) = true then (none) else (caulkerlaw10_KindMarks.j1 kj11 a2 t266 a0_0 a0_1 a0_2 a0_3 t262 t263 t264 t265)) else (if t260 = 81 then (if (!(t256 == 0) || (!(t257.toList == ([] : List UInt8)) || (!(t258 == 0) || (!(t259.toList == ([] : List UInt8)))))) = true then (none) else (caulkerlaw10_KindMarks.j1 kj11 a2 t266 a0_0 a0_1 a0_2 a0_3 t262 t263 t264 t265)) else (none))))) else (none)) else (none)) else (none)) else (none))) else (none)) else (none)) = some r := by rw [if_neg (show ¬ (false = true) by decide)] at H; exact H
        clear H
        have H := H1
        clear H1
        by_cases c44 : 0 ≤ a1
        ·rw [if_pos c44] at H
         have c44b0 := eq_true c44
         have c44b1 : decide (0 ≤ a1) = true := decide_eq_true c44
         clear c44
         by_cases c45 : a1 ≤ (a0_3.size : Int)
         ·rw [if_pos c45] at H
          have c45b0 := eq_true c45
          have c45b1 : decide (a1 ≤ (a0_3.size : Int)) = true := decide_eq_true c45
          clear c45
          obtain ⟨y270, hy270⟩ : ∃ y_ : List Int, y_ = (([a2] : List Int)) := ⟨_, rfl⟩
          replace H : (if (a0_3.extract 0 (a1 : Int).toNat).size + (strOfNums y270).size ≤ 9223372036854775807 then (if 0 ≤ (wrap64 (a1 + 1)) then (if (wrap64 (a1 + 1)) ≤ (a0_3.size : Int) then (if ((a0_3.extract 0 (a1 : Int).toNat) ++ (strOfNums y270)).size + (a0_3.extract ((wrap64 (a1 + 1)) : Int).toNat a0_3.size).size ≤ 9223372036854775807 then ((caulkerref07_Right.f kj11 a0_0 a0_1 a0_2 (((a0_3.extract 0 (a1 : Int).toNat) ++ (strOfNums y270)) ++ (a0_3.extract ((wrap64 (a1 + 1)) : Int).toNat a0_3.size))).bind fun t273 => (if (t273 != (t260 == 0)) = true then (none) else (if t260 = 0 then (if (!(t256 == a0_0) || (!(t257.toList == a0_1.toList) || (!(t258 == a0_2) || (!(t259.toList == ((((a0_3.extract 0 (a1 : Int).toNat) ++ (strOfNums y270)) ++ (a0_3.extract ((wrap64 (a1 + 1)) : Int).toNat a0_3.size)).toList)))))) = true then (none) else (caulkerlaw10_KindMarks.j1 kj11 a2 t266 a0_0 a0_1 a0_2 a0_3 t262 t263 t264 t265)) else (if t260 = 81 then (if (!(t256 == 0) || (!(t257.toList == ([] : List UInt8)) || (!(t258 == 0) || (!(t259.toList == ([] : List UInt8)))))) = true then (none) else (caulkerlaw10_KindMarks.j1 kj11 a2 t266 a0_0 a0_1 a0_2 a0_3 t262 t263 t264 t265)) else (none))))) else (none)) else (none)) else (none)) else (none)) = some r := by first | (rw [hy270]; with_reducible exact H) | (have H2_ := (Option.bind_some _ _).symm.trans H; rw [hy270]; with_reducible exact H2_) | (have H2_ := (Option.bind_some _ _).symm.trans H; with_reducible exact H2_) | with_reducible exact H | (rw [hy270]; exact H) | exact H
          have Ny270 := Aside0.mk hy270
          clear hy270
          by_cases c46 : (a0_3.extract 0 (a1 : Int).toNat).size + (strOfNums y270).size ≤ 9223372036854775807
          ·rw [if_pos c46] at H
           have c46b0 := eq_true c46
           have c46b1 : decide ((a0_3.extract 0 (a1 : Int).toNat).size + (strOfNums y270).size ≤ 9223372036854775807) = true := decide_eq_true c46
           try have c46b2 : (9223372036854775807 < (a0_3.extract 0 (a1 : Int).toNat).size + (strOfNums y270).size) = False := eq_false (Nat.not_lt.2 c46)
           try have c46b8 : (9223372036854775807 < a1.toNat + (strOfNums y270).size) = False := eq_false (Nat.not_lt.2 (by have h_ := c46; have g0_ : 0 ≤ a1 := pxd; have g_ : a1 ≤ (a0_3.size : Int) := pxd; rw [ByteArray.size_extract] at h_; omega))
           try have c46b9 : (a1.toNat + (strOfNums y270).size ≤ 9223372036854775807) = True := eq_true (by have h_ := c46; have g0_ : 0 ≤ a1 := pxd; have g_ : a1 ≤ (a0_3.size : Int) := pxd; rw [ByteArray.size_extract] at h_; omega)
           obtain ⟨ji47, hji47⟩ : ∃ j_ : Int, (wrap64 (a1 + 1)) = j_ := ⟨_, rfl⟩
           replace H : (if 0 ≤ (ji47) then (if (ji47) ≤ (a0_3.size : Int) then (if ((a0_3.extract 0 (a1 : Int).toNat) ++ (strOfNums y270)).size + (a0_3.extract ((ji47) : Int).toNat a0_3.size).size ≤ 9223372036854775807 then ((caulkerref07_Right.f kj11 a0_0 a0_1 a0_2 (((a0_3.extract 0 (a1 : Int).toNat) ++ (strOfNums y270)) ++ (a0_3.extract ((ji47) : Int).toNat a0_3.size))).bind fun t273 => (if (t273 != (t260 == 0)) = true then (none) else (if t260 = 0 then (if (!(t256 == a0_0) || (!(t257.toList == a0_1.toList) || (!(t258 == a0_2) || (!(t259.toList == ((((a0_3.extract 0 (a1 : Int).toNat) ++ (strOfNums y270)) ++ (a0_3.extract ((ji47) : Int).toNat a0_3.size)).toList)))))) = true then (none) else (caulkerlaw10_KindMarks.j1 kj11 a2 t266 a0_0 a0_1 a0_2 a0_3 t262 t263 t264 t265)) else (if t260 = 81 then (if (!(t256 == 0) || (!(t257.toList == ([] : List UInt8)) || (!(t258 == 0) || (!(t259.toList == ([] : List UInt8)))))) = true then (none) else (caulkerlaw10_KindMarks.j1 kj11 a2 t266 a0_0 a0_1 a0_2 a0_3 t262 t263 t264 t265)) else (none))))) else (none)) else (none)) else (none)) = some r := by first | (rw [hji47] at H; exact H) | (simp only [hji47] at H ⊢; exact H)
           have hji47w : (IntKind.i64.wrap (a1 + 1)) = ji47 := (i64_w _).trans hji47
           by_cases c48 : 0 ≤ (ji47)
           ·rw [if_pos c48] at H
            have c48b0 := eq_true c48
            have c48b1 : decide (0 ≤ (ji47)) = true := decide_eq_true c48
            clear c48
            by_cases c49 : (ji47) ≤ (a0_3.size : Int)
            ·rw [if_pos c49] at H
             have c49b0 := eq_true c49
             have c49b1 : decide ((ji47) ≤ (a0_3.size : Int)) = true := decide_eq_true c49
             clear c49
             by_cases c50 : ((a0_3.extract 0 (a1 : Int).toNat) ++ (strOfNums y270)).size + (a0_3.extract ((ji47) : Int).toNat a0_3.size).size ≤ 9223372036854775807
             ·rw [if_pos c50] at H
              have c50b0 := eq_true c50
              have c50b1 : decide (((a0_3.extract 0 (a1 : Int).toNat) ++ (strOfNums y270)).size + (a0_3.extract ((ji47) : Int).toNat a0_3.size).size ≤ 9223372036854775807) = true := decide_eq_true c50
              try have c50b2 : (9223372036854775807 < ((a0_3.extract 0 (a1 : Int).toNat) ++ (strOfNums y270)).size + (a0_3.extract ((ji47) : Int).toNat a0_3.size).size) = False := eq_false (Nat.not_lt.2 c50)
              try have c50b10 : (9223372036854775807 < a1.toNat + (strOfNums y270).size + (a0_3.size - ji47.toNat)) = False := eq_false (Nat.not_lt.2 (by have h_ := c50; have g0_ : 0 ≤ a1 := pxd; have g_ : a1 ≤ (a0_3.size : Int) := pxd; rw [ByteArray.size_append, ByteArray.size_extract, ByteArray.size_extract] at h_; omega))
              try have c50b11 : (a1.toNat + (strOfNums y270).size + (a0_3.size - ji47.toNat) ≤ 9223372036854775807) = True := eq_true (by have h_ := c50; have g0_ : 0 ≤ a1 := pxd; have g_ : a1 ≤ (a0_3.size : Int) := pxd; rw [ByteArray.size_append, ByteArray.size_extract, ByteArray.size_extract] at h_; omega)
              replace H := Option.bind_eq_some_iff.mp H
              obtain ⟨t273, A510, H⟩ := H
              replace H : (if (t273 != (t260 == 0)) = true then (none) else (if t260 = 0 then (if (!(t256 == a0_0) || (!(t257.toList == a0_1.toList) || (!(t258 == a0_2) || (!(t259.toList == ((((a0_3.extract 0 (a1 : Int).toNat) ++ (strOfNums y270)) ++ (a0_3.extract ((ji47) : Int).toNat a0_3.size)).toList)))))) = true then (none) else (caulkerlaw10_KindMarks.j1 kj11 a2 t266 a0_0 a0_1 a0_2 a0_3 t262 t263 t264 t265)) else (if t260 = 81 then (if (!(t256 == 0) || (!(t257.toList == ([] : List UInt8)) || (!(t258 == 0) || (!(t259.toList == ([] : List UInt8)))))) = true then (none) else (caulkerlaw10_KindMarks.j1 kj11 a2 t266 a0_0 a0_1 a0_2 a0_3 t262 t263 t264 t265)) else (none)))) = some r := H
              have A51 := Aside0.mk A510
              clear A510
              by_cases c52 : (t273 != (t260 == 0)) = true
              ·rw [if_pos c52] at H
               exact absurd H (by simp)
              ·rw [if_neg c52] at H
               have c52b0 : (t273 != (t260 == 0)) = false := by simpa using c52
               (try (have c52b1 : decide (t273 = (t260 == 0)) = true := by simpa using c52))
               (try (have c52b2 : (t273 == (t260 == 0)) = true := by simpa using c52))
               clear c52
               by_cases c53 : t260 = 0
               ·rw [if_pos c53] at H
                have c53b0 : (t260 == 0) = true := beq_iff_eq.mpr c53
                have c52b0d : t273 = true := by have h_ := c52b0; rw [c53b0] at h_; revert h_; cases t273 <;> decide
                have c53b1 : (t260 != 0) = false := bne_eq_false_iff_eq.mpr c53
                clear c53
                by_cases c54 : (!(t256 == a0_0) || (!(t257.toList == a0_1.toList) || (!(t258 == a0_2) || (!(t259.toList == ((((a0_3.extract 0 (a1 : Int).toNat) ++ (strOfNums y270)) ++ (a0_3.extract ((ji47) : Int).toNat a0_3.size)).toList)))))) = true
                ·rw [if_pos c54] at H
                 exact absurd H (by simp)
                ·rw [if_neg c54] at H
                 have c54b0 : (!(t256 == a0_0) || (!(t257.toList == a0_1.toList) || (!(t258 == a0_2) || (!(t259.toList == ((((a0_3.extract 0 (a1 : Int).toNat) ++ (strOfNums y270)) ++ (a0_3.extract ((ji47) : Int).toNat a0_3.size)).toList)))))) = false := by simpa using c54
                 clear c54
                 have H' := Aside0.mk H
                 clear H
                 have hnb55 := NB250_261.out
                 have hnc55 := NB261_250.out
                 have hnb56 := NB250_267.out
                 have hnc56 := NB267_250.out
                 have hcz57_0 : wc.cell? ⟨gb250, 0, none⟩ = some (.int .i64 a0_0) := (blk_cell BK250.out 0).trans rfl
                 have hcz57_1 : wc.cell? ⟨gb250, 1, none⟩ = some (.string a0_1) := (blk_cell BK250.out 1).trans rfl
                 have hcz57_2 : wc.cell? ⟨gb250, 2, none⟩ = some (.int .i64 a0_2) := (blk_cell BK250.out 2).trans rfl
                 have hcz57_3 : wc.cell? ⟨gb250, 3, none⟩ = some (.string a0_3) := (blk_cell BK250.out 3).trans rfl
                 have hfz57_0 := blk_frozen BK250.out 0
                 have hfz57_1 := blk_frozen BK250.out 1
                 have hfz57_2 := blk_frozen BK250.out 2
                 have hfz57_3 := blk_frozen BK250.out 3
                 try go_wp2_with (first | ((with_reducible refine gate_dst (N := 11) rfl ?_); refine box_event ?hg (N := 11) ?hd (cs := #[.int .i64 0, .string (⟨#[]⟩ : ByteArray), .int .i64 0, .string (⟨#[]⟩ : ByteArray)]) (t := 23) ?hr ?_; (case hd => rfl); (case hg => rfl); (case hr => first | (go_simp; done) | (go_simp; rfl)); intro gb269 hg w58 hbox hb; have BK269 := Aside0.mk (hbox); have GW269 := pxw HB hg; have GE269 := pxw HB hg; have NB250_269 := pxn BK250 hg; have NB269_250 := Aside0.mk (pxn BK250 hg).out.symm; have NB261_269 := pxn BK261 hg; have NB269_261 := Aside0.mk (pxn BK261 hg).out.symm; have NB267_269 := pxn BK267 hg; have NB269_267 := Aside0.mk (pxn BK267 hg).out.symm; replace BK250 := pxk BK250 hb; replace BK261 := pxk BK261 hb; replace BK267 := pxk BK267 hb; replace HB := pxs HB hb; clear hb hbox hg; have hnb59 := NB269_250.out; have hnc59 := NB250_269.out; have hnb60 := NB269_261.out; have hnc60 := NB261_269.out; have hnb61 := NB269_267.out; have hnc61 := NB267_269.out; obtain ⟨hcz62_0, hcz62_1, hcz62_2, hcz62_3, hfz62_0, hfz62_1, hfz62_2, hfz62_3⟩ := pxf4 BK269))
                 have n0_ : Aside0 (((((w58.setCell ⟨gb269, 0, none⟩ (.int .i64 a0_0)).setCell ⟨gb269, 1, none⟩ (.string a0_1)).setCell ⟨gb269, 2, none⟩ (.int .i64 a0_2)).setCell ⟨gb269, 3, none⟩ (.string a0_3)).heap[gb250]? = some (.cells #[.int .i64 a0_0, .string a0_1, .int .i64 a0_2, .string a0_3] 23 (0, 0))) := ⟨pxp BK250⟩
                 have n1_ : Aside0 (((((w58.setCell ⟨gb269, 0, none⟩ (.int .i64 a0_0)).setCell ⟨gb269, 1, none⟩ (.string a0_1)).setCell ⟨gb269, 2, none⟩ (.int .i64 a0_2)).setCell ⟨gb269, 3, none⟩ (.string a0_3)).heap[gb261]? = some (.cells #[.int .i64 t256, .string t257, .int .i64 t258, .string t259] 23 (0, 0))) := ⟨pxp BK261⟩
                 have n2_ : Aside0 (((((w58.setCell ⟨gb269, 0, none⟩ (.int .i64 a0_0)).setCell ⟨gb269, 1, none⟩ (.string a0_1)).setCell ⟨gb269, 2, none⟩ (.int .i64 a0_2)).setCell ⟨gb269, 3, none⟩ (.string a0_3)).heap[gb267]? = some (.cells #[.int .i64 t262, .string t263, .int .i64 t264, .string t265] 23 (0, 0))) := ⟨pxp BK267⟩
                 have n3_ : Aside0 (((((w58.setCell ⟨gb269, 0, none⟩ (.int .i64 a0_0)).setCell ⟨gb269, 1, none⟩ (.string a0_1)).setCell ⟨gb269, 2, none⟩ (.int .i64 a0_2)).setCell ⟨gb269, 3, none⟩ (.string a0_3)).heap[gb269]? = some (.cells #[.int .i64 a0_0, .string a0_1, .int .i64 a0_2, .string a0_3] 23 (0, 0))) := ⟨pxp BK269⟩
                 have n4_ : Aside0 (Below w.heap.size w ((((w58.setCell ⟨gb269, 0, none⟩ (.int .i64 a0_0)).setCell ⟨gb269, 1, none⟩ (.string a0_1)).setCell ⟨gb269, 2, none⟩ (.int .i64 a0_2)).setCell ⟨gb269, 3, none⟩ (.string a0_3))) := ⟨pxb HB⟩
                 (try clear BK250)
                 (try clear BK261)
                 (try clear BK267)
                 (try clear BK269)
                 (try clear HB)
                 generalize ((((w58.setCell ⟨gb269, 0, none⟩ (.int .i64 a0_0)).setCell ⟨gb269, 1, none⟩ (.string a0_1)).setCell ⟨gb269, 2, none⟩ (.int .i64 a0_2)).setCell ⟨gb269, 3, none⟩ (.string a0_3)) = w63 at n0_ n1_ n2_ n3_ n4_ ⊢
                 have BK250 := n0_
                 have BK261 := n1_
                 have BK267 := n2_
                 have BK269 := n3_
                 have HB := n4_
                 clear n0_ n1_ n2_ n3_ n4_
                 have n0_ := Aside0.mk (blk_drew BK250.out)
                 have n1_ := Aside0.mk (blk_drew BK261.out)
                 have n2_ := Aside0.mk (blk_drew BK267.out)
                 have n3_ := Aside0.mk (blk_drew BK269.out)
                 have n4_ := Aside0.mk (below_drew1 HB.out)
                 clear BK250
                 clear BK261
                 clear BK267
                 clear BK269
                 clear HB
                 have BK250 := n0_
                 have BK261 := n1_
                 have BK267 := n2_
                 have BK269 := n3_
                 have HB := n4_
                 clear n0_ n1_ n2_ n3_ n4_
                 refine start_ (n := 16) (S := fun w' => w'.cell? ⟨gb250, 0, none⟩ = some (.int .i64 a0_0) ∧ w'.cell? ⟨gb250, 1, none⟩ = some (.string a0_1) ∧ w'.cell? ⟨gb250, 2, none⟩ = some (.int .i64 a0_2) ∧ w'.cell? ⟨gb250, 3, none⟩ = some (.string a0_3)) (ds := []) #[false, false, false, false, false, false, false, false, false, false, false, false, false, false, false, false] (by kernel_rfl) rfl rfl ⟨(blk_cell BK250.out 0).trans rfl, (blk_cell BK250.out 1).trans rfl, (blk_cell BK250.out 2).trans rfl, (blk_cell BK250.out 3).trans rfl⟩ (fun hHeld => ?_); refine with_tabW caulkerlaw10_KindMarks.tab13 caulkerlaw10_KindMarks.bits13 (fun HT_ HW_ => ?_)
                 generalize w63.drew = w64 at BK250 BK261 BK267 BK269 HB hHeld ⊢
                 refine pure_ (i := 0) (N := some 67) (v := ?_) (a' := ?_) #[true, false, false, false, false, false, false, false, false, false, false, false, false, false, false, false] rfl rfl (any_of HT_.out (by kernel_rfl)) (fun _ _ _ h => h) (Or.inl ⟨by rfl, ?_⟩) ?_ ?_
                 rotate_left
                 ·intro w'
                  go_simp
                  with_reducible rfl
                 rotate_left
                 ·simp only [Act.put, List.setIfInBounds_toArray, List.set_cons_zero, List.set_cons_succ, i64_w, i32_w]
                  rfl
                 refine pure_ (i := 2) (N := some 69) (v := ?_) (a' := ?_) #[true, false, true, false, false, false, false, false, false, false, false, false, false, false, false, false] rfl rfl (any_of HT_.out (by kernel_rfl)) (fun _ _ _ h => h) (Or.inl ⟨by rfl, ?_⟩) ?_ ?_
                 rotate_left
                 ·intro w'
                  go_simp
                  with_reducible rfl
                 rotate_left
                 ·simp only [Act.put, List.setIfInBounds_toArray, List.set_cons_zero, List.set_cons_succ, i64_w, i32_w]
                  rfl
                 refine pure_ (i := 4) (N := some 71) (v := ?_) (a' := ?_) #[true, false, true, false, true, false, false, false, false, false, false, false, false, false, false, false] rfl rfl (any_of HT_.out (by kernel_rfl)) (fun _ _ _ h => h) (Or.inl ⟨by rfl, ?_⟩) ?_ ?_
                 rotate_left
                 ·intro w'
                  go_simp
                  with_reducible rfl
                 rotate_left
                 ·simp only [Act.put, List.setIfInBounds_toArray, List.set_cons_zero, List.set_cons_succ, i64_w, i32_w]
                  rfl
                 refine pure_ (i := 8) (N := some 75) (v := ?_) (a' := ?_) #[true, false, true, false, true, false, false, false, true, false, false, false, false, false, false, false] rfl rfl (any_of HT_.out (by kernel_rfl)) (fun _ _ _ h => h) (Or.inl ⟨by rfl, ?_⟩) ?_ ?_
                 rotate_left
                 ·intro w'
                  go_simp
                  with_reducible rfl
                 rotate_left
                 ·simp only [Act.put, List.setIfInBounds_toArray, List.set_cons_zero, List.set_cons_succ, i64_w, i32_w]
                  rfl
                 refine pure_ (i := 10) (N := some 77) (v := ?_) (a' := ?_) #[true, false, true, false, true, false, false, false, true, false, true, false, false, false, false, false] rfl rfl (any_of HT_.out (by kernel_rfl)) (fun _ _ _ h => h) (Or.inl ⟨by rfl, ?_⟩) ?_ ?_
                 rotate_left
                 ·intro w'
                  go_simp
                  with_reducible rfl
                 rotate_left
                 ·simp only [Act.put, List.setIfInBounds_toArray, List.set_cons_zero, List.set_cons_succ, i64_w, i32_w]
                  rfl
                 refine pure_ (i := 11) (N := some 78) (v := ?_) (a' := ?_) #[true, false, true, false, true, false, false, false, true, false, true, true, false, false, false, false] rfl rfl (any_of HT_.out (by kernel_rfl)) (fun _ _ _ h => h) (Or.inl ⟨by rfl, ?_⟩) ?_ ?_
                 rotate_left
                 ·intro w'
                  go_simp
                  with_reducible rfl
                 rotate_left
                 ·simp only [Act.put, List.setIfInBounds_toArray, List.set_cons_zero, List.set_cons_succ, i64_w, i32_w]
                  rfl
                 refine take_ (i := 1) (N := some 68) (v := ?_) (a' := ?_) #[true, true, true, false, true, false, false, false, true, false, true, true, false, false, false, false] rfl rfl (take_ofW HT_.out HW_.out (by kernel_rfl)) (fun _ _ _ h => h) (Or.inl ⟨by rfl, ?_⟩) hHeld ?_ ?_
                 rotate_left
                 ·rintro w' ⟨s0, s1, s2, s3⟩
                  go_simp
                  with_reducible rfl
                 rotate_left
                 ·simp only [Act.put, List.setIfInBounds_toArray, List.set_cons_zero, List.set_cons_succ, i64_w, i32_w]
                  rfl
                 refine pure_ (i := 3) (N := some 70) (v := ?_) (a' := ?_) #[true, true, true, true, true, false, false, false, true, false, true, true, false, false, false, false] rfl rfl (any_of HT_.out (by kernel_rfl)) (fun _ _ _ h => h) (Or.inl ⟨by rfl, ?_⟩) ?_ ?_
                 rotate_left
                 ·intro w'
                  go_simp
                  with_reducible rfl
                 rotate_left
                 ·simp only [Act.put, List.setIfInBounds_toArray, List.set_cons_zero, List.set_cons_succ, i64_w, i32_w]
                  rfl
                 refine take_ (i := 9) (N := some 76) (v := ?_) (a' := ?_) #[true, true, true, true, true, false, false, false, true, true, true, true, false, false, false, false] rfl rfl (take_ofW HT_.out HW_.out (by kernel_rfl)) (fun _ _ _ h => h) (Or.inl ⟨by rfl, ?_⟩) hHeld ?_ ?_
                 rotate_left
                 ·rintro w' ⟨s0, s1, s2, s3⟩
                  go_simp
                  with_reducible rfl
                 rotate_left
                 ·simp only [Act.put, List.setIfInBounds_toArray, List.set_cons_zero, List.set_cons_succ, i64_w, i32_w]
                  rfl
                 refine pure_ (i := 12) (N := some 79) (v := ?_) (a' := ?_) #[true, true, true, true, true, false, false, false, true, true, true, true, true, false, false, false] rfl rfl (any_of HT_.out (by kernel_rfl)) (fun _ _ _ h => h) (Or.inl ⟨by rfl, ?_⟩) ?_ ?_
                 rotate_left
                 ·intro w'
                  go_simp
                  with_reducible rfl
                 rotate_left
                 ·simp only [Act.put, List.setIfInBounds_toArray, List.set_cons_zero, List.set_cons_succ, i64_w, i32_w]
                  rfl
                 refine one_ (i := 5) (N := some 72) #[true, true, true, true, true, true, false, false, true, true, true, true, true, false, false, false] rfl rfl (one_of HT_.out (by kernel_rfl)) (by decide) (fun K hK => ?_)
                 refine Kd.R_lit_step (Kd.int .u8) _ 5 ?hg (N := 72) ?hd (xs := ([a2] : List Int)) (inner := [.int .u8 a2]) (ok := fun _ => True) (okp := fun _ => True) ?hr ?hp (fun _ hk => hk) trivial (Below.refl _ _) (Nat.le_refl _) (by simp) ?_; (case hd => rfl); (case hg => rfl); (case hr => first | (go_simp; done) | (go_simp; rfl)); (case hp => exact (Reps.one (show Kd.M (Kd.int .u8) _ _ _ a2 [.int .u8 a2] from rfl) (Reps.none _ _)))
                 intro v271 w65 ho66 hb hg_ hnew_
                 clear hg_ hnew_
                 (first | rw [← Ny270.out] at ho66 | (simp only [Int.reduceToNat] at ho66; rw [← Ny270.out] at ho66))
                 have n0_ := Aside0.mk (Kd.R_lower ho66 (below_size (pxb HB)))
                 have n1_ := pxk BK250 hb
                 have n2_ := pxk BK261 hb
                 have n3_ := pxk BK267 hb
                 have n4_ := pxk BK269 hb
                 have n5_ := pxs HB hb
                 clear BK250
                 clear BK261
                 clear BK267
                 clear BK269
                 clear HB
                 have HO272 := n0_
                 have BK250 := n1_
                 have BK261 := n2_
                 have BK267 := n3_
                 have BK269 := n4_
                 have HB := n5_
                 clear n0_ n1_ n2_ n3_ n4_ n5_
                 clear hb ho66
                 refine hK.out _ _ ⟨(blk_cell BK250.out 0).trans rfl, (blk_cell BK250.out 1).trans rfl, (blk_cell BK250.out 2).trans rfl, (blk_cell BK250.out 3).trans rfl⟩ (fun hHeld => ?_)
                 clear hK K
                 refine norm_ (a' := ?_) ?_ ?_
                 rotate_left
                 ·show Act.put _ (some 72) _ = _
                  simp only [Act.put, List.setIfInBounds_toArray, List.set_cons_zero, List.set_cons_succ, i64_w, i32_w]
                  rfl
                 refine one_ (i := 6) (N := some 73) #[true, true, true, true, true, true, true, false, true, true, true, true, true, false, false, false] rfl rfl (one_of HT_.out (by kernel_rfl)) (by decide) (fun K hK => ?_)
                 have hcv67 := own_string (P := Try.prog) Try.underlying32 Try.underlying5 Try.underlying9 (Kd.own_of_R HO272.out)
                 refine value_ (w1 := ?_) (v := ?_) (by rfl) rfl ?_ ?_
                 rotate_left 2
                 ·go_simp
                  constructor
                  ·rfl
                  ·rfl
                 clear hcv67
                 refine hK.out _ _ ⟨(blk_cell BK250.out 0).trans rfl, (blk_cell BK250.out 1).trans rfl, (blk_cell BK250.out 2).trans rfl, (blk_cell BK250.out 3).trans rfl⟩ (fun hHeld => ?_)
                 clear hK K
                 refine norm_ (a' := ?_) ?_ ?_
                 rotate_left
                 ·show Act.put _ (some 73) _ = _
                  simp only [Act.put, List.setIfInBounds_toArray, List.set_cons_zero, List.set_cons_succ, i64_w, i32_w]
                  rfl
                 refine pure_ (i := 7) (N := some 74) (v := ?_) (a' := ?_) #[true, true, true, true, true, true, true, true, true, true, true, true, true, false, false, false] rfl rfl (any_of HT_.out (by kernel_rfl)) (fun _ _ _ h => h) (Or.inl ⟨by rfl, ?_⟩) ?_ ?_
                 rotate_left
                 ·intro w'
                  go_simp
                  with_reducible rfl
                 rotate_left
                 ·simp only [Act.put, List.setIfInBounds_toArray, List.set_cons_zero, List.set_cons_succ, i64_w, i32_w]
                  rfl
                 refine pure_ (i := 13) (N := some 80) (v := ?_) (a' := ?_) #[true, true, true, true, true, true, true, true, true, true, true, true, true, true, false, false] rfl rfl (any_of HT_.out (by kernel_rfl)) (fun _ _ _ h => h) (Or.inl ⟨by rfl, ?_⟩) ?_ ?_
                 rotate_left
                 ·intro w'
                  go_simp
                  with_reducible rfl
                 rotate_left
                 ·simp only [Act.put, List.setIfInBounds_toArray, List.set_cons_zero, List.set_cons_succ, i64_w, i32_w]
                  rfl
                 refine pure_ (i := 14) (N := some 81) (v := ?_) (a' := ?_) #[true, true, true, true, true, true, true, true, true, true, true, true, true, true, true, false] rfl rfl (any_of HT_.out (by kernel_rfl)) (fun _ _ _ h => h) (Or.inl ⟨by rfl, ?_⟩) ?_ ?_
                 rotate_left
                 ·intro w'
                  go_simp
                  with_reducible rfl
                 rotate_left
                 ·simp only [Act.put, List.setIfInBounds_toArray, List.set_cons_zero, List.set_cons_succ, i64_w, i32_w]
                  rfl
                 refine one_ (i := 15) (N := none) #[true, true, true, true, true, true, true, true, true, true, true, true, true, true, true, true] rfl rfl (one_of HT_.out (by kernel_rfl)) (by decide) (fun K hK => ?_)
                 have hs68 : w65.cell? ⟨gb269, 3, none⟩ = some (.string a0_3) := (blk_cell BK269.out 3).trans rfl
                 have hfs68 := blk_frozen BK269.out 3
                 have hns68_0 := NB250_269.out
                 have hns68_1 := NB261_269.out
                 have hns68_2 := NB267_269.out
                 have hms68_0 := NB269_250.out
                 have hms68_1 := NB269_261.out
                 have hms68_2 := NB269_267.out
                 refine skip_ (w1 := ?_) (by rfl) rfl ?_ ?_
                 rotate_left
                 ·go_simp
                  rfl
                 refine hK.out _ _ ⟨((cell_far (p := ⟨gb269, _, none⟩) NB250_269.out _).trans (hHeld.1)), ((cell_far (p := ⟨gb269, _, none⟩) NB250_269.out _).trans (hHeld.2.1)), ((cell_far (p := ⟨gb269, _, none⟩) NB250_269.out _).trans (hHeld.2.2.1)), ((cell_far (p := ⟨gb269, _, none⟩) NB250_269.out _).trans (hHeld.2.2.2))⟩ (fun hHeld => ?_)
                 clear hK K
                 refine done_ (done_of HT_.out (by kernel_rfl)) ?_
                 have hcz69_0 : w65.cell? ⟨gb269, 0, none⟩ = some (.int .i64 a0_0) := (blk_cell BK269.out 0).trans rfl
                 have hcz69_1 : w65.cell? ⟨gb269, 1, none⟩ = some (.string a0_1) := (blk_cell BK269.out 1).trans rfl
                 have hcz69_2 : w65.cell? ⟨gb269, 2, none⟩ = some (.int .i64 a0_2) := (blk_cell BK269.out 2).trans rfl
                 have hcz69_3 : w65.cell? ⟨gb269, 3, none⟩ = some (.string a0_3) := (blk_cell BK269.out 3).trans rfl
                 have hfz69_0 := blk_frozen BK269.out 0
                 have hfz69_1 := blk_frozen BK269.out 1
                 have hfz69_2 := blk_frozen BK269.out 2
                 have hfz69_3 := blk_frozen BK269.out 3
                 try go_wp2_with (first | ((with_reducible refine gate_callee (f := 18) rfl ?_); refine goesL_ (some 83) rfl rfl Try.func18 (by kernel_rfl) rfl #[.agg #[.int .i64 a0_0, .string a0_1, .int .i64 a0_2, .string (((a0_3.extract 0 (a1 : Int).toNat) ++ (strOfNums y270)) ++ (a0_3.extract ((ji47) : Int).toNat a0_3.size))]] rfl (by (try simp only [List.map_toArray, List.map_cons, List.map_nil]); first | done | (simp only [hji47]; rfl) | rfl | (simp only [List.length_drop, List.length_take]; rfl)) ?_; (with_reducible refine (caulkerref07_Right.calls kj11 a0_0 a0_1 a0_2 (((a0_3.extract 0 (a1 : Int).toNat) ++ (strOfNums y270)) ++ (a0_3.extract ((ji47) : Int).toNat a0_3.size)) t273 _ A51.out).mono ?_); rintro e w70 ⟨rfl, hb⟩; refine ⟨_, rfl, ?_⟩; replace HO272 := Aside0.mk (Kd.R_below (by (with_reducible repeat (first | apply Kd.R_alloc | apply Kd.R_drewN | apply Kd.R_drew)); exact (Kd.R_mono (Kd.R_far (p := ⟨gb269, 3, none⟩) (Kd.R_types HO272.out BK269.out (by decide)) (fun _ hk => hk.2) (.string (((a0_3.extract 0 (a1 : Int).toNat) ++ (strOfNums y270)) ++ (a0_3.extract ((ji47) : Int).toNat a0_3.size)))) (fun _ h_ => h_.1))) hb); replace BK250 := Aside0.mk (blk_below (g := gb250) (o := .cells #[.int .i64 a0_0, .string a0_1, .int .i64 a0_2, .string a0_3] 23 (0, 0)) (pxp BK250) hb); replace BK261 := Aside0.mk (blk_below (g := gb261) (o := .cells #[.int .i64 t256, .string t257, .int .i64 t258, .string t259] 23 (0, 0)) (pxp BK261) hb); replace BK267 := Aside0.mk (blk_below (g := gb267) (o := .cells #[.int .i64 t262, .string t263, .int .i64 t264, .string t265] 23 (0, 0)) (pxp BK267) hb); replace BK269 := Aside0.mk (blk_below (g := gb269) (o := .cells #[.int .i64 a0_0, .string a0_1, .int .i64 a0_2, .string (((a0_3.extract 0 (a1 : Int).toNat) ++ (strOfNums y270)) ++ (a0_3.extract ((ji47) : Int).toNat a0_3.size))] 23 (0, 0)) (pxp BK269) hb); replace HB := pxs HB hb; (try clear hb); (try clear hb2); (try clear hk); (try clear hi); have hnb71 := NB261_267.out; have hnc71 := NB267_261.out; obtain ⟨hcz72_0, hcz72_1, hcz72_2, hcz72_3, hfz72_0, hfz72_1, hfz72_2, hfz72_3⟩ := pxf4 BK261; obtain ⟨hcz73_0, hcz73_1, hcz73_2, hcz73_3, hfz73_0, hfz73_1, hfz73_2, hfz73_3⟩ := pxf4 BK269))
                 go_meet
                 case rel => exact ⟨_, H', ⟨by have := HJ11.out; first | omega | exact Nat.le_refl _⟩, ⟨pxq BK250⟩, ⟨pxq BK261⟩, ⟨pxq BK267⟩, ⟨pxb HB⟩⟩
               ·rw [if_neg c53] at H
                have c53b0 : (t260 == 0) = false := beq_eq_false_iff_ne.mpr c53
                have c52b0d : t273 = false := by have h_ := c52b0; rw [c53b0] at h_; revert h_; cases t273 <;> decide
                have c53b1 : (t260 != 0) = true := bne_iff_ne.mpr c53
                by_cases c74 : t260 = 81
                ·rw [if_pos c74] at H
                 have c74b0 : (t260 == 81) = true := beq_iff_eq.mpr c74
                 have c74b1 : (t260 != 81) = false := bne_eq_false_iff_eq.mpr c74
                 clear c74
                 by_cases c75 : (!(t256 == 0) || (!(t257.toList == ([] : List UInt8)) || (!(t258 == 0) || (!(t259.toList == ([] : List UInt8)))))) = true
                 ·rw [if_pos c75] at H
                  exact absurd H (by simp)
                 ·rw [if_neg c75] at H
                  have c75b0 : (!(t256 == 0) || (!(t257.toList == ([] : List UInt8)) || (!(t258 == 0) || (!(t259.toList == ([] : List UInt8)))))) = false := by simpa using c75
                  (try (have c75b0e : (!(t256 == 0) || (!(t257.toList.isEmpty) || (!(t258 == 0) || (!(t259.toList.isEmpty))))) = false := by simpa only [pxbeq, pxbne] using c75b0))
                  clear c75
                  have H' := Aside0.mk H
                  clear H
                  have hnb76 := NB250_261.out
                  have hnc76 := NB261_250.out
                  have hnb77 := NB250_267.out
                  have hnc77 := NB267_250.out
                  have hcz78_0 : wc.cell? ⟨gb250, 0, none⟩ = some (.int .i64 a0_0) := (blk_cell BK250.out 0).trans rfl
                  have hcz78_1 : wc.cell? ⟨gb250, 1, none⟩ = some (.string a0_1) := (blk_cell BK250.out 1).trans rfl
                  have hcz78_2 : wc.cell? ⟨gb250, 2, none⟩ = some (.int .i64 a0_2) := (blk_cell BK250.out 2).trans rfl
                  have hcz78_3 : wc.cell? ⟨gb250, 3, none⟩ = some (.string a0_3) := (blk_cell BK250.out 3).trans rfl
                  have hfz78_0 := blk_frozen BK250.out 0
                  have hfz78_1 := blk_frozen BK250.out 1
                  have hfz78_2 := blk_frozen BK250.out 2
                  have hfz78_3 := blk_frozen BK250.out 3
                  try go_wp2_with (first | ((with_reducible refine gate_dst (N := 11) rfl ?_); refine box_event ?hg (N := 11) ?hd (cs := #[.int .i64 0, .string (⟨#[]⟩ : ByteArray), .int .i64 0, .string (⟨#[]⟩ : ByteArray)]) (t := 23) ?hr ?_; (case hd => rfl); (case hg => rfl); (case hr => first | (go_simp; done) | (go_simp; rfl)); intro gb269 hg w79 hbox hb; have BK269 := Aside0.mk (hbox); have GW269 := pxw HB hg; have GE269 := pxw HB hg; have NB250_269 := pxn BK250 hg; have NB269_250 := Aside0.mk (pxn BK250 hg).out.symm; have NB261_269 := pxn BK261 hg; have NB269_261 := Aside0.mk (pxn BK261 hg).out.symm; have NB267_269 := pxn BK267 hg; have NB269_267 := Aside0.mk (pxn BK267 hg).out.symm; replace BK250 := pxk BK250 hb; replace BK261 := pxk BK261 hb; replace BK267 := pxk BK267 hb; replace HB := pxs HB hb; clear hb hbox hg; have hnb80 := NB269_250.out; have hnc80 := NB250_269.out; have hnb81 := NB269_261.out; have hnc81 := NB261_269.out; have hnb82 := NB269_267.out; have hnc82 := NB267_269.out; obtain ⟨hcz83_0, hcz83_1, hcz83_2, hcz83_3, hfz83_0, hfz83_1, hfz83_2, hfz83_3⟩ := pxf4 BK269))
                  have n0_ : Aside0 (((((w79.setCell ⟨gb269, 0, none⟩ (.int .i64 a0_0)).setCell ⟨gb269, 1, none⟩ (.string a0_1)).setCell ⟨gb269, 2, none⟩ (.int .i64 a0_2)).setCell ⟨gb269, 3, none⟩ (.string a0_3)).heap[gb250]? = some (.cells #[.int .i64 a0_0, .string a0_1, .int .i64 a0_2, .string a0_3] 23 (0, 0))) := ⟨pxp BK250⟩
                  have n1_ : Aside0 (((((w79.setCell ⟨gb269, 0, none⟩ (.int .i64 a0_0)).setCell ⟨gb269, 1, none⟩ (.string a0_1)).setCell ⟨gb269, 2, none⟩ (.int .i64 a0_2)).setCell ⟨gb269, 3, none⟩ (.string a0_3)).heap[gb261]? = some (.cells #[.int .i64 t256, .string t257, .int .i64 t258, .string t259] 23 (0, 0))) := ⟨pxp BK261⟩
                  have n2_ : Aside0 (((((w79.setCell ⟨gb269, 0, none⟩ (.int .i64 a0_0)).setCell ⟨gb269, 1, none⟩ (.string a0_1)).setCell ⟨gb269, 2, none⟩ (.int .i64 a0_2)).setCell ⟨gb269, 3, none⟩ (.string a0_3)).heap[gb267]? = some (.cells #[.int .i64 t262, .string t263, .int .i64 t264, .string t265] 23 (0, 0))) := ⟨pxp BK267⟩
                  have n3_ : Aside0 (((((w79.setCell ⟨gb269, 0, none⟩ (.int .i64 a0_0)).setCell ⟨gb269, 1, none⟩ (.string a0_1)).setCell ⟨gb269, 2, none⟩ (.int .i64 a0_2)).setCell ⟨gb269, 3, none⟩ (.string a0_3)).heap[gb269]? = some (.cells #[.int .i64 a0_0, .string a0_1, .int .i64 a0_2, .string a0_3] 23 (0, 0))) := ⟨pxp BK269⟩
                  have n4_ : Aside0 (Below w.heap.size w ((((w79.setCell ⟨gb269, 0, none⟩ (.int .i64 a0_0)).setCell ⟨gb269, 1, none⟩ (.string a0_1)).setCell ⟨gb269, 2, none⟩ (.int .i64 a0_2)).setCell ⟨gb269, 3, none⟩ (.string a0_3))) := ⟨pxb HB⟩
                  (try clear BK250)
                  (try clear BK261)
                  (try clear BK267)
                  (try clear BK269)
                  (try clear HB)
                  generalize ((((w79.setCell ⟨gb269, 0, none⟩ (.int .i64 a0_0)).setCell ⟨gb269, 1, none⟩ (.string a0_1)).setCell ⟨gb269, 2, none⟩ (.int .i64 a0_2)).setCell ⟨gb269, 3, none⟩ (.string a0_3)) = w84 at n0_ n1_ n2_ n3_ n4_ ⊢
                  have BK250 := n0_
                  have BK261 := n1_
                  have BK267 := n2_
                  have BK269 := n3_
                  have HB := n4_
                  clear n0_ n1_ n2_ n3_ n4_
                  have n0_ := Aside0.mk (blk_drew BK250.out)
                  have n1_ := Aside0.mk (blk_drew BK261.out)
                  have n2_ := Aside0.mk (blk_drew BK267.out)
                  have n3_ := Aside0.mk (blk_drew BK269.out)
                  have n4_ := Aside0.mk (below_drew1 HB.out)
                  clear BK250
                  clear BK261
                  clear BK267
                  clear BK269
                  clear HB
                  have BK250 := n0_
                  have BK261 := n1_
                  have BK267 := n2_
                  have BK269 := n3_
                  have HB := n4_
                  clear n0_ n1_ n2_ n3_ n4_
                  refine start_ (n := 16) (S := fun w' => w'.cell? ⟨gb250, 0, none⟩ = some (.int .i64 a0_0) ∧ w'.cell? ⟨gb250, 1, none⟩ = some (.string a0_1) ∧ w'.cell? ⟨gb250, 2, none⟩ = some (.int .i64 a0_2) ∧ w'.cell? ⟨gb250, 3, none⟩ = some (.string a0_3)) (ds := []) #[false, false, false, false, false, false, false, false, false, false, false, false, false, false, false, false] (by kernel_rfl) rfl rfl ⟨(blk_cell BK250.out 0).trans rfl, (blk_cell BK250.out 1).trans rfl, (blk_cell BK250.out 2).trans rfl, (blk_cell BK250.out 3).trans rfl⟩ (fun hHeld => ?_); refine with_tabW caulkerlaw10_KindMarks.tab13 caulkerlaw10_KindMarks.bits13 (fun HT_ HW_ => ?_)
                  generalize w84.drew = w85 at BK250 BK261 BK267 BK269 HB hHeld ⊢
                  refine pure_ (i := 0) (N := some 67) (v := ?_) (a' := ?_) #[true, false, false, false, false, false, false, false, false, false, false, false, false, false, false, false] rfl rfl (any_of HT_.out (by kernel_rfl)) (fun _ _ _ h => h) (Or.inl ⟨by rfl, ?_⟩) ?_ ?_
                  rotate_left
                  ·intro w'
                   go_simp
                   with_reducible rfl
                  rotate_left
                  ·simp only [Act.put, List.setIfInBounds_toArray, List.set_cons_zero, List.set_cons_succ, i64_w, i32_w]
                   rfl
                  refine pure_ (i := 2) (N := some 69) (v := ?_) (a' := ?_) #[true, false, true, false, false, false, false, false, false, false, false, false, false, false, false, false] rfl rfl (any_of HT_.out (by kernel_rfl)) (fun _ _ _ h => h) (Or.inl ⟨by rfl, ?_⟩) ?_ ?_
                  rotate_left
                  ·intro w'
                   go_simp
                   with_reducible rfl
                  rotate_left
                  ·simp only [Act.put, List.setIfInBounds_toArray, List.set_cons_zero, List.set_cons_succ, i64_w, i32_w]
                   rfl
                  refine pure_ (i := 4) (N := some 71) (v := ?_) (a' := ?_) #[true, false, true, false, true, false, false, false, false, false, false, false, false, false, false, false] rfl rfl (any_of HT_.out (by kernel_rfl)) (fun _ _ _ h => h) (Or.inl ⟨by rfl, ?_⟩) ?_ ?_
                  rotate_left
                  ·intro w'
                   go_simp
                   with_reducible rfl
                  rotate_left
                  ·simp only [Act.put, List.setIfInBounds_toArray, List.set_cons_zero, List.set_cons_succ, i64_w, i32_w]
                   rfl
                  refine pure_ (i := 8) (N := some 75) (v := ?_) (a' := ?_) #[true, false, true, false, true, false, false, false, true, false, false, false, false, false, false, false] rfl rfl (any_of HT_.out (by kernel_rfl)) (fun _ _ _ h => h) (Or.inl ⟨by rfl, ?_⟩) ?_ ?_
                  rotate_left
                  ·intro w'
                   go_simp
                   with_reducible rfl
                  rotate_left
                  ·simp only [Act.put, List.setIfInBounds_toArray, List.set_cons_zero, List.set_cons_succ, i64_w, i32_w]
                   rfl
                  refine pure_ (i := 10) (N := some 77) (v := ?_) (a' := ?_) #[true, false, true, false, true, false, false, false, true, false, true, false, false, false, false, false] rfl rfl (any_of HT_.out (by kernel_rfl)) (fun _ _ _ h => h) (Or.inl ⟨by rfl, ?_⟩) ?_ ?_
                  rotate_left
                  ·intro w'
                   go_simp
                   with_reducible rfl
                  rotate_left
                  ·simp only [Act.put, List.setIfInBounds_toArray, List.set_cons_zero, List.set_cons_succ, i64_w, i32_w]
                   rfl
                  refine pure_ (i := 11) (N := some 78) (v := ?_) (a' := ?_) #[true, false, true, false, true, false, false, false, true, false, true, true, false, false, false, false] rfl rfl (any_of HT_.out (by kernel_rfl)) (fun _ _ _ h => h) (Or.inl ⟨by rfl, ?_⟩) ?_ ?_
                  rotate_left
                  ·intro w'
                   go_simp
                   with_reducible rfl
                  rotate_left
                  ·simp only [Act.put, List.setIfInBounds_toArray, List.set_cons_zero, List.set_cons_succ, i64_w, i32_w]
                   rfl
                  refine take_ (i := 1) (N := some 68) (v := ?_) (a' := ?_) #[true, true, true, false, true, false, false, false, true, false, true, true, false, false, false, false] rfl rfl (take_ofW HT_.out HW_.out (by kernel_rfl)) (fun _ _ _ h => h) (Or.inl ⟨by rfl, ?_⟩) hHeld ?_ ?_
                  rotate_left
                  ·rintro w' ⟨s0, s1, s2, s3⟩
                   go_simp
                   with_reducible rfl
                  rotate_left
                  ·simp only [Act.put, List.setIfInBounds_toArray, List.set_cons_zero, List.set_cons_succ, i64_w, i32_w]
                   rfl
                  refine pure_ (i := 3) (N := some 70) (v := ?_) (a' := ?_) #[true, true, true, true, true, false, false, false, true, false, true, true, false, false, false, false] rfl rfl (any_of HT_.out (by kernel_rfl)) (fun _ _ _ h => h) (Or.inl ⟨by rfl, ?_⟩) ?_ ?_
                  rotate_left
                  ·intro w'
                   go_simp
                   with_reducible rfl
                  rotate_left
                  ·simp only [Act.put, List.setIfInBounds_toArray, List.set_cons_zero, List.set_cons_succ, i64_w, i32_w]
                   rfl
                  refine take_ (i := 9) (N := some 76) (v := ?_) (a' := ?_) #[true, true, true, true, true, false, false, false, true, true, true, true, false, false, false, false] rfl rfl (take_ofW HT_.out HW_.out (by kernel_rfl)) (fun _ _ _ h => h) (Or.inl ⟨by rfl, ?_⟩) hHeld ?_ ?_
                  rotate_left
                  ·rintro w' ⟨s0, s1, s2, s3⟩
                   go_simp
                   with_reducible rfl
                  rotate_left
                  ·simp only [Act.put, List.setIfInBounds_toArray, List.set_cons_zero, List.set_cons_succ, i64_w, i32_w]
                   rfl
                  refine pure_ (i := 12) (N := some 79) (v := ?_) (a' := ?_) #[true, true, true, true, true, false, false, false, true, true, true, true, true, false, false, false] rfl rfl (any_of HT_.out (by kernel_rfl)) (fun _ _ _ h => h) (Or.inl ⟨by rfl, ?_⟩) ?_ ?_
                  rotate_left
                  ·intro w'
                   go_simp
                   with_reducible rfl
                  rotate_left
                  ·simp only [Act.put, List.setIfInBounds_toArray, List.set_cons_zero, List.set_cons_succ, i64_w, i32_w]
                   rfl
                  refine one_ (i := 5) (N := some 72) #[true, true, true, true, true, true, false, false, true, true, true, true, true, false, false, false] rfl rfl (one_of HT_.out (by kernel_rfl)) (by decide) (fun K hK => ?_)
                  refine Kd.R_lit_step (Kd.int .u8) _ 5 ?hg (N := 72) ?hd (xs := ([a2] : List Int)) (inner := [.int .u8 a2]) (ok := fun _ => True) (okp := fun _ => True) ?hr ?hp (fun _ hk => hk) trivial (Below.refl _ _) (Nat.le_refl _) (by simp) ?_; (case hd => rfl); (case hg => rfl); (case hr => first | (go_simp; done) | (go_simp; rfl)); (case hp => exact (Reps.one (show Kd.M (Kd.int .u8) _ _ _ a2 [.int .u8 a2] from rfl) (Reps.none _ _)))
                  intro v271 w86 ho87 hb hg_ hnew_
                  clear hg_ hnew_
                  (first | rw [← Ny270.out] at ho87 | (simp only [Int.reduceToNat] at ho87; rw [← Ny270.out] at ho87))
                  have n0_ := Aside0.mk (Kd.R_lower ho87 (below_size (pxb HB)))
                  have n1_ := pxk BK250 hb
                  have n2_ := pxk BK261 hb
                  have n3_ := pxk BK267 hb
                  have n4_ := pxk BK269 hb
                  have n5_ := pxs HB hb
                  clear BK250
                  clear BK261
                  clear BK267
                  clear BK269
                  clear HB
                  have HO272 := n0_
                  have BK250 := n1_
                  have BK261 := n2_
                  have BK267 := n3_
                  have BK269 := n4_
                  have HB := n5_
                  clear n0_ n1_ n2_ n3_ n4_ n5_
                  clear hb ho87
                  refine hK.out _ _ ⟨(blk_cell BK250.out 0).trans rfl, (blk_cell BK250.out 1).trans rfl, (blk_cell BK250.out 2).trans rfl, (blk_cell BK250.out 3).trans rfl⟩ (fun hHeld => ?_)
                  clear hK K
                  refine norm_ (a' := ?_) ?_ ?_
                  rotate_left
                  ·show Act.put _ (some 72) _ = _
                   simp only [Act.put, List.setIfInBounds_toArray, List.set_cons_zero, List.set_cons_succ, i64_w, i32_w]
                   rfl
                  refine one_ (i := 6) (N := some 73) #[true, true, true, true, true, true, true, false, true, true, true, true, true, false, false, false] rfl rfl (one_of HT_.out (by kernel_rfl)) (by decide) (fun K hK => ?_)
                  have hcv88 := own_string (P := Try.prog) Try.underlying32 Try.underlying5 Try.underlying9 (Kd.own_of_R HO272.out)
                  refine value_ (w1 := ?_) (v := ?_) (by rfl) rfl ?_ ?_
                  rotate_left 2
                  ·go_simp
                   constructor
                   ·rfl
                   ·rfl
                  clear hcv88
                  refine hK.out _ _ ⟨(blk_cell BK250.out 0).trans rfl, (blk_cell BK250.out 1).trans rfl, (blk_cell BK250.out 2).trans rfl, (blk_cell BK250.out 3).trans rfl⟩ (fun hHeld => ?_)
                  clear hK K
                  refine norm_ (a' := ?_) ?_ ?_
                  rotate_left
                  ·show Act.put _ (some 73) _ = _
                   simp only [Act.put, List.setIfInBounds_toArray, List.set_cons_zero, List.set_cons_succ, i64_w, i32_w]
                   rfl
                  refine pure_ (i := 7) (N := some 74) (v := ?_) (a' := ?_) #[true, true, true, true, true, true, true, true, true, true, true, true, true, false, false, false] rfl rfl (any_of HT_.out (by kernel_rfl)) (fun _ _ _ h => h) (Or.inl ⟨by rfl, ?_⟩) ?_ ?_
                  rotate_left
                  ·intro w'
                   go_simp
                   with_reducible rfl
                  rotate_left
                  ·simp only [Act.put, List.setIfInBounds_toArray, List.set_cons_zero, List.set_cons_succ, i64_w, i32_w]
                   rfl
                  refine pure_ (i := 13) (N := some 80) (v := ?_) (a' := ?_) #[true, true, true, true, true, true, true, true, true, true, true, true, true, true, false, false] rfl rfl (any_of HT_.out (by kernel_rfl)) (fun _ _ _ h => h) (Or.inl ⟨by rfl, ?_⟩) ?_ ?_
                  rotate_left
                  ·intro w'
                   go_simp
                   with_reducible rfl
                  rotate_left
                  ·simp only [Act.put, List.setIfInBounds_toArray, List.set_cons_zero, List.set_cons_succ, i64_w, i32_w]
                   rfl
                  refine pure_ (i := 14) (N := some 81) (v := ?_) (a' := ?_) #[true, true, true, true, true, true, true, true, true, true, true, true, true, true, true, false] rfl rfl (any_of HT_.out (by kernel_rfl)) (fun _ _ _ h => h) (Or.inl ⟨by rfl, ?_⟩) ?_ ?_
                  rotate_left
                  ·intro w'
                   go_simp
                   with_reducible rfl
                  rotate_left
                  ·simp only [Act.put, List.setIfInBounds_toArray, List.set_cons_zero, List.set_cons_succ, i64_w, i32_w]
                   rfl
                  refine one_ (i := 15) (N := none) #[true, true, true, true, true, true, true, true, true, true, true, true, true, true, true, true] rfl rfl (one_of HT_.out (by kernel_rfl)) (by decide) (fun K hK => ?_)
                  have hs89 : w86.cell? ⟨gb269, 3, none⟩ = some (.string a0_3) := (blk_cell BK269.out 3).trans rfl
                  have hfs89 := blk_frozen BK269.out 3
                  have hns89_0 := NB250_269.out
                  have hns89_1 := NB261_269.out
                  have hns89_2 := NB267_269.out
                  have hms89_0 := NB269_250.out
                  have hms89_1 := NB269_261.out
                  have hms89_2 := NB269_267.out
                  refine skip_ (w1 := ?_) (by rfl) rfl ?_ ?_
                  rotate_left
                  ·go_simp
                   rfl
                  refine hK.out _ _ ⟨((cell_far (p := ⟨gb269, _, none⟩) NB250_269.out _).trans (hHeld.1)), ((cell_far (p := ⟨gb269, _, none⟩) NB250_269.out _).trans (hHeld.2.1)), ((cell_far (p := ⟨gb269, _, none⟩) NB250_269.out _).trans (hHeld.2.2.1)), ((cell_far (p := ⟨gb269, _, none⟩) NB250_269.out _).trans (hHeld.2.2.2))⟩ (fun hHeld => ?_)
                  clear hK K
                  refine done_ (done_of HT_.out (by kernel_rfl)) ?_
                  have hcz90_0 : w86.cell? ⟨gb269, 0, none⟩ = some (.int .i64 a0_0) := (blk_cell BK269.out 0).trans rfl
                  have hcz90_1 : w86.cell? ⟨gb269, 1, none⟩ = some (.string a0_1) := (blk_cell BK269.out 1).trans rfl
                  have hcz90_2 : w86.cell? ⟨gb269, 2, none⟩ = some (.int .i64 a0_2) := (blk_cell BK269.out 2).trans rfl
                  have hcz90_3 : w86.cell? ⟨gb269, 3, none⟩ = some (.string a0_3) := (blk_cell BK269.out 3).trans rfl
                  have hfz90_0 := blk_frozen BK269.out 0
                  have hfz90_1 := blk_frozen BK269.out 1
                  have hfz90_2 := blk_frozen BK269.out 2
                  have hfz90_3 := blk_frozen BK269.out 3
                  try go_wp2_with (first | ((with_reducible refine gate_callee (f := 18) rfl ?_); refine goesL_ (some 83) rfl rfl Try.func18 (by kernel_rfl) rfl #[.agg #[.int .i64 a0_0, .string a0_1, .int .i64 a0_2, .string (((a0_3.extract 0 (a1 : Int).toNat) ++ (strOfNums y270)) ++ (a0_3.extract ((ji47) : Int).toNat a0_3.size))]] rfl (by (try simp only [List.map_toArray, List.map_cons, List.map_nil]); first | done | (simp only [hji47]; rfl) | rfl | (simp only [List.length_drop, List.length_take]; rfl)) ?_; (with_reducible refine (caulkerref07_Right.calls kj11 a0_0 a0_1 a0_2 (((a0_3.extract 0 (a1 : Int).toNat) ++ (strOfNums y270)) ++ (a0_3.extract ((ji47) : Int).toNat a0_3.size)) t273 _ A51.out).mono ?_); rintro e w91 ⟨rfl, hb⟩; refine ⟨_, rfl, ?_⟩; replace HO272 := Aside0.mk (Kd.R_below (by (with_reducible repeat (first | apply Kd.R_alloc | apply Kd.R_drewN | apply Kd.R_drew)); exact (Kd.R_mono (Kd.R_far (p := ⟨gb269, 3, none⟩) (Kd.R_types HO272.out BK269.out (by decide)) (fun _ hk => hk.2) (.string (((a0_3.extract 0 (a1 : Int).toNat) ++ (strOfNums y270)) ++ (a0_3.extract ((ji47) : Int).toNat a0_3.size)))) (fun _ h_ => h_.1))) hb); replace BK250 := Aside0.mk (blk_below (g := gb250) (o := .cells #[.int .i64 a0_0, .string a0_1, .int .i64 a0_2, .string a0_3] 23 (0, 0)) (pxp BK250) hb); replace BK261 := Aside0.mk (blk_below (g := gb261) (o := .cells #[.int .i64 t256, .string t257, .int .i64 t258, .string t259] 23 (0, 0)) (pxp BK261) hb); replace BK267 := Aside0.mk (blk_below (g := gb267) (o := .cells #[.int .i64 t262, .string t263, .int .i64 t264, .string t265] 23 (0, 0)) (pxp BK267) hb); replace BK269 := Aside0.mk (blk_below (g := gb269) (o := .cells #[.int .i64 a0_0, .string a0_1, .int .i64 a0_2, .string (((a0_3.extract 0 (a1 : Int).toNat) ++ (strOfNums y270)) ++ (a0_3.extract ((ji47) : Int).toNat a0_3.size))] 23 (0, 0)) (pxp BK269) hb); replace HB := pxs HB hb; (try clear hb); (try clear hb2); (try clear hk); (try clear hi); have hnb92 := NB261_267.out; have hnc92 := NB267_261.out; obtain ⟨hcz93_0, hcz93_1, hcz93_2, hcz93_3, hfz93_0, hfz93_1, hfz93_2, hfz93_3⟩ := pxf4 BK261))
                  go_meet
                  case rel => exact ⟨_, H', ⟨by have := HJ11.out; first | omega | exact Nat.le_refl _⟩, ⟨pxq BK250⟩, ⟨pxq BK261⟩, ⟨pxq BK267⟩, ⟨pxb HB⟩⟩
                ·rw [if_neg c74] at H
                 exact absurd H (by simp)
             ·rw [if_neg c50] at H
              exact absurd H (by simp)
            ·rw [if_neg c49] at H
             exact absurd H (by simp)
           ·rw [if_neg c48] at H
            exact absurd H (by simp)
          ·rw [if_neg c46] at H
           exact absurd H (by simp)
         ·rw [if_neg c45] at H
          exact absurd H (by simp)
        ·rw [if_neg c44] at H
         exact absurd H (by simp)
      case rest => as_aux_lemma =>
       clear HC37
       (try clear c1); (try clear p2); (try clear c3); (try clear c4); (try clear c5); (try clear c6); (try clear p6); (try clear hcv6); (try clear c7); (try clear c8); (try clear hcv8); (try clear c9); (try clear c18); (try clear c38); (try clear c39); (try clear c39b0); (try clear c39b1); (try clear c40); (try clear c40b0); (try clear c41); (try clear c42); (try clear c44); (try clear c44b0); (try clear c44b1); (try clear c45); (try clear c45b0); (try clear c45b1); (try clear c46); (try clear c46b0); (try clear c46b1); (try clear c46b2); (try clear c48); (try clear c48b0); (try clear c48b1); (try clear c49); (try clear c49b0); (try clear c49b1); (try clear c50); (try clear c50b0); (try clear c50b1); (try clear c50b2); (try clear c52); (try clear c52b0); (try clear c52b1); (try clear c52b2); (try clear c53); (try clear c53b0); (try clear c53b1); (try clear c54); (try clear c54b0); (try clear c55); (try clear c56); (try clear c59); (try clear c60); (try clear c61); (try clear p64); (try clear hcv67); (try clear c71); (try clear c74); (try clear c74b0); (try clear c74b1); (try clear c75); (try clear c75b0); (try clear c76); (try clear c77); (try clear c80); (try clear c81); (try clear c82); (try clear hcv88); (try clear c92); (try clear hcz43_0 hcz43_1 hcz43_2 hcz43_3 hfz43_0 hfz43_1 hfz43_2 hfz43_3); (try clear hcz57_0 hcz57_1 hcz57_2 hcz57_3 hfz57_0 hfz57_1 hfz57_2 hfz57_3); (try clear hcz62_0 hcz62_1 hcz62_2 hcz62_3 hfz62_0 hfz62_1 hfz62_2 hfz62_3); (try clear hcz69_0 hcz69_1 hcz69_2 hcz69_3 hfz69_0 hfz69_1 hfz69_2 hfz69_3); (try clear hcz72_0 hcz72_1 hcz72_2 hcz72_3 hfz72_0 hfz72_1 hfz72_2 hfz72_3); (try clear hcz73_0 hcz73_1 hcz73_2 hcz73_3 hfz73_0 hfz73_1 hfz73_2 hfz73_3); (try clear hcz78_0 hcz78_1 hcz78_2 hcz78_3 hfz78_0 hfz78_1 hfz78_2 hfz78_3); (try clear hcz83_0 hcz83_1 hcz83_2 hcz83_3 hfz83_0 hfz83_1 hfz83_2 hfz83_3); (try clear hcz90_0 hcz90_1 hcz90_2 hcz90_3 hfz90_0 hfz90_1 hfz90_2 hfz90_3); (try clear hcz93_0 hcz93_1 hcz93_2 hcz93_3 hfz93_0 hfz93_1 hfz93_2 hfz93_3)
       obtain ⟨kq, HA, HJ36, BK250, BK261, BK267, HB⟩ := hcut
       cases kq with
       | zero => exact absurd HA.out (by simp [caulkerlaw10_KindMarks.j1])
       | succ kj36 =>
        have H := HA.out
        clear HA
        simp only [caulkerlaw10_KindMarks.j1] at H
        have HC94 := Aside0.mk H
        clear H
        go_upto_region 16 with (fail)
        go_cut [116] (fun v116 wc => ∃ (kq : Nat) (x116_93 : Bool), v116 = .bool x116_93 ∧ Aside0 (caulkerlaw10_KindMarks.j2 kq a2 t266 x116_93 a0_0 a0_1 a0_2 a0_3 t262 t263 t264 t265 = some r) ∧ Aside0 (kq ≤ kj36) ∧ Aside0 (wc.heap[gb250]? = some (.cells #[.int .i64 a0_0, .string a0_1, .int .i64 a0_2, .string a0_3] 23 (0, 0))) ∧ Aside0 (wc.heap[gb261]? = some (.cells #[.int .i64 t256, .string t257, .int .i64 t258, .string t259] 23 (0, 0))) ∧ Aside0 (wc.heap[gb267]? = some (.cells #[.int .i64 t262, .string t263, .int .i64 t264, .string t265] 23 (0, 0))) ∧ Aside0 (Below w.heap.size w wc))
        case first =>
         have H := HC94.out
         clear HC94
         by_cases c95 : a0_2 = 0
         ·rw [if_pos c95] at H
          have c95b0 : (a0_2 == 0) = true := beq_iff_eq.mpr c95
          have c95b1 : (a0_2 != 0) = false := bne_eq_false_iff_eq.mpr c95
          clear c95
          (first | rw [c95b0] | (simp only [i64_w, i32_w]; rw [c95b0]) | skip)
          have H' := Aside0.mk H
          clear H
          have hnb96 := NB250_261.out
          have hnc96 := NB261_250.out
          have hnb97 := NB250_267.out
          have hnc97 := NB267_250.out
          have hcz98_0 : wc.cell? ⟨gb250, 0, none⟩ = some (.int .i64 a0_0) := (blk_cell BK250.out 0).trans rfl
          have hcz98_1 : wc.cell? ⟨gb250, 1, none⟩ = some (.string a0_1) := (blk_cell BK250.out 1).trans rfl
          have hcz98_2 : wc.cell? ⟨gb250, 2, none⟩ = some (.int .i64 a0_2) := (blk_cell BK250.out 2).trans rfl
          have hcz98_3 : wc.cell? ⟨gb250, 3, none⟩ = some (.string a0_3) := (blk_cell BK250.out 3).trans rfl
          have hfz98_0 := blk_frozen BK250.out 0
          have hfz98_1 := blk_frozen BK250.out 1
          have hfz98_2 := blk_frozen BK250.out 2
          have hfz98_3 := blk_frozen BK250.out 3
          go_wp2
          go_meet
          case rel => exact ⟨_, ((a0_0 != 5)), (by first | rfl | (simp; done) | (simp [*]; done)), H', ⟨by have := HJ11.out; have := HJ36.out; first | omega | exact Nat.le_refl _⟩, ⟨pxq BK250⟩, ⟨pxq BK261⟩, ⟨pxq BK267⟩, ⟨pxb HB⟩⟩
         ·rw [if_neg c95] at H
          have c95b0 : (a0_2 == 0) = false := beq_eq_false_iff_ne.mpr c95
          have c95b1 : (a0_2 != 0) = true := bne_iff_ne.mpr c95
          (first | rw [c95b0] | (simp only [i64_w, i32_w]; rw [c95b0]) | skip)
          have H' := Aside0.mk H
          clear H
          have hnb99 := NB250_261.out
          have hnc99 := NB261_250.out
          have hnb100 := NB250_267.out
          have hnc100 := NB267_250.out
          have hcz101_0 : wc.cell? ⟨gb250, 0, none⟩ = some (.int .i64 a0_0) := (blk_cell BK250.out 0).trans rfl
          have hcz101_1 : wc.cell? ⟨gb250, 1, none⟩ = some (.string a0_1) := (blk_cell BK250.out 1).trans rfl
          have hcz101_2 : wc.cell? ⟨gb250, 2, none⟩ = some (.int .i64 a0_2) := (blk_cell BK250.out 2).trans rfl
          have hcz101_3 : wc.cell? ⟨gb250, 3, none⟩ = some (.string a0_3) := (blk_cell BK250.out 3).trans rfl
          have hfz101_0 := blk_frozen BK250.out 0
          have hfz101_1 := blk_frozen BK250.out 1
          have hfz101_2 := blk_frozen BK250.out 2
          have hfz101_3 := blk_frozen BK250.out 3
          go_wp2
          go_meet
          case rel => exact ⟨_, (false), (by first | rfl | (simp; done) | (simp [*]; done)), H', ⟨by have := HJ11.out; have := HJ36.out; first | omega | exact Nat.le_refl _⟩, ⟨pxq BK250⟩, ⟨pxq BK261⟩, ⟨pxq BK267⟩, ⟨pxb HB⟩⟩
        case rest => as_aux_lemma =>
         clear HC94
         (try clear c1); (try clear p2); (try clear c3); (try clear c4); (try clear c5); (try clear c6); (try clear p6); (try clear hcv6); (try clear c7); (try clear c8); (try clear hcv8); (try clear c9); (try clear c10); (try clear c18); (try clear c38); (try clear c39); (try clear c39b0); (try clear c39b1); (try clear c40); (try clear c40b0); (try clear c41); (try clear c42); (try clear c44); (try clear c44b0); (try clear c44b1); (try clear c45); (try clear c45b0); (try clear c45b1); (try clear c46); (try clear c46b0); (try clear c46b1); (try clear c46b2); (try clear c48); (try clear c48b0); (try clear c48b1); (try clear c49); (try clear c49b0); (try clear c49b1); (try clear c50); (try clear c50b0); (try clear c50b1); (try clear c50b2); (try clear c52); (try clear c52b0); (try clear c52b1); (try clear c52b2); (try clear c53); (try clear c53b0); (try clear c53b1); (try clear c54); (try clear c54b0); (try clear c55); (try clear c56); (try clear c59); (try clear c60); (try clear c61); (try clear p64); (try clear hcv67); (try clear c71); (try clear c74); (try clear c74b0); (try clear c74b1); (try clear c75); (try clear c75b0); (try clear c76); (try clear c77); (try clear c80); (try clear c81); (try clear c82); (try clear hcv88); (try clear c92); (try clear c95); (try clear c95b0); (try clear c95b1); (try clear c96); (try clear c97); (try clear c99); (try clear c100); (try clear hcz101_0 hcz101_1 hcz101_2 hcz101_3 hfz101_0 hfz101_1 hfz101_2 hfz101_3); (try clear hcz43_0 hcz43_1 hcz43_2 hcz43_3 hfz43_0 hfz43_1 hfz43_2 hfz43_3); (try clear hcz57_0 hcz57_1 hcz57_2 hcz57_3 hfz57_0 hfz57_1 hfz57_2 hfz57_3); (try clear hcz62_0 hcz62_1 hcz62_2 hcz62_3 hfz62_0 hfz62_1 hfz62_2 hfz62_3); (try clear hcz69_0 hcz69_1 hcz69_2 hcz69_3 hfz69_0 hfz69_1 hfz69_2 hfz69_3); (try clear hcz72_0 hcz72_1 hcz72_2 hcz72_3 hfz72_0 hfz72_1 hfz72_2 hfz72_3); (try clear hcz73_0 hcz73_1 hcz73_2 hcz73_3 hfz73_0 hfz73_1 hfz73_2 hfz73_3); (try clear hcz78_0 hcz78_1 hcz78_2 hcz78_3 hfz78_0 hfz78_1 hfz78_2 hfz78_3); (try clear hcz83_0 hcz83_1 hcz83_2 hcz83_3 hfz83_0 hfz83_1 hfz83_2 hfz83_3); (try clear hcz90_0 hcz90_1 hcz90_2 hcz90_3 hfz90_0 hfz90_1 hfz90_2 hfz90_3); (try clear hcz93_0 hcz93_1 hcz93_2 hcz93_3 hfz93_0 hfz93_1 hfz93_2 hfz93_3); (try clear hcz98_0 hcz98_1 hcz98_2 hcz98_3 hfz98_0 hfz98_1 hfz98_2 hfz98_3)
         obtain ⟨kq, x116_93, rfl, HA, HJ93, BK250, BK261, BK267, HB⟩ := hcut
         cases kq with
         | zero => exact absurd HA.out (by simp [caulkerlaw10_KindMarks.j2])
         | succ kj93 =>
          have H := HA.out
          clear HA
          simp only [caulkerlaw10_KindMarks.j2] at H
          by_cases c102 : x116_93 = true
          ·subst c102
           have H1 : (if t266 = 130 then (some (t262 == 0 && (t263.toList == ([] : List UInt8) && (t264 == 0 && (t265.toList == ([] : List UInt8)))))) else (none)) = some r := by rw [if_pos rfl] at H; exact H
           clear H
           have H := H1
           clear H1
           by_cases c103 : t266 = 130
           ·rw [if_pos c103] at H
            have c103b0 : (t266 == 130) = true := beq_iff_eq.mpr c103
            have c103b1 : (t266 != 130) = false := bne_eq_false_iff_eq.mpr c103
            clear c103
            obtain rfl := Option.some.inj H
            have hnb104 := NB267_250.out
            have hnc104 := NB250_267.out
            have hnb105 := NB267_261.out
            have hnc105 := NB261_267.out
            have hcz106_0 : wc.cell? ⟨gb267, 0, none⟩ = some (.int .i64 t262) := (blk_cell BK267.out 0).trans rfl
            have hcz106_1 : wc.cell? ⟨gb267, 1, none⟩ = some (.string t263) := (blk_cell BK267.out 1).trans rfl
            have hcz106_2 : wc.cell? ⟨gb267, 2, none⟩ = some (.int .i64 t264) := (blk_cell BK267.out 2).trans rfl
            have hcz106_3 : wc.cell? ⟨gb267, 3, none⟩ = some (.string t265) := (blk_cell BK267.out 3).trans rfl
            have hfz106_0 := blk_frozen BK267.out 0
            have hfz106_1 := blk_frozen BK267.out 1
            have hfz106_2 := blk_frozen BK267.out 2
            have hfz106_3 := blk_frozen BK267.out 3
            go_wp2
            go_ret
            exact ⟨by first | rfl | (simp [errW_none, errW_some] <;> rfl) | (simp [*, errW_none, errW_some] <;> rfl) | (simp [*, pxbeq, pxbne, errW_none, errW_some]; done), pxb HB⟩
           ·rw [if_neg c103] at H
            exact absurd H (by simp)
          ·replace c102 := Bool.eq_false_iff.mpr c102
           subst c102
           have H1 : (if 0 ≤ a0_2 then (if a0_2 ≤ (a0_3.size : Int) then ((some (([a2] : List Int) : List Int)).bind fun y275 => (if (a0_3.extract 0 (a0_2 : Int).toNat).size + (strOfNums y275).size ≤ 9223372036854775807 then ((caulkerref07_Right.f kj93 a0_0 a0_1 a0_2 ((a0_3.extract 0 (a0_2 : Int).toNat) ++ (strOfNums y275))).bind fun t278 => (if t278 = true then (if t266 = 0 then (some (t262 == a0_0 && (t263.toList == a0_1.toList && (t264 == a0_2 && (t265.toList == (((a0_3.extract 0 (a0_2 : Int).toNat) ++ (strOfNums y275)).toList)))))) else (none)) else (if t266 = 81 then (some (t262 == 0 && (t263.toList == ([] : List UInt8) && (t264 == 0 && (t265.toList == ([] : List UInt8)))))) else (none)))) else (none))) else (none)) else (none)) = some r := by rw [if_neg (show ¬ (false = true) by decide)] at H; exact H
           clear H
           have H := H1
           clear H1
           by_cases c107 : 0 ≤ a0_2
           ·rw [if_pos c107] at H
            have c107b0 := eq_true c107
            have c107b1 : decide (0 ≤ a0_2) = true := decide_eq_true c107
            clear c107
            by_cases c108 : a0_2 ≤ (a0_3.size : Int)
            ·rw [if_pos c108] at H
             have c108b0 := eq_true c108
             have c108b1 : decide (a0_2 ≤ (a0_3.size : Int)) = true := decide_eq_true c108
             clear c108
             obtain ⟨y275, hy275⟩ : ∃ y_ : List Int, y_ = (([a2] : List Int)) := ⟨_, rfl⟩
             replace H : (if (a0_3.extract 0 (a0_2 : Int).toNat).size + (strOfNums y275).size ≤ 9223372036854775807 then ((caulkerref07_Right.f kj93 a0_0 a0_1 a0_2 ((a0_3.extract 0 (a0_2 : Int).toNat) ++ (strOfNums y275))).bind fun t278 => (if t278 = true then (if t266 = 0 then (some (t262 == a0_0 && (t263.toList == a0_1.toList && (t264 == a0_2 && (t265.toList == (((a0_3.extract 0 (a0_2 : Int).toNat) ++ (strOfNums y275)).toList)))))) else (none)) else (if t266 = 81 then (some (t262 == 0 && (t263.toList == ([] : List UInt8) && (t264 == 0 && (t265.toList == ([] : List UInt8)))))) else (none)))) else (none)) = some r := by first | (rw [hy275]; with_reducible exact H) | (have H2_ := (Option.bind_some _ _).symm.trans H; rw [hy275]; with_reducible exact H2_) | (have H2_ := (Option.bind_some _ _).symm.trans H; with_reducible exact H2_) | with_reducible exact H | (rw [hy275]; exact H) | exact H
             have Ny275 := Aside0.mk hy275
             clear hy275
             by_cases c109 : (a0_3.extract 0 (a0_2 : Int).toNat).size + (strOfNums y275).size ≤ 9223372036854775807
             ·rw [if_pos c109] at H
              have c109b0 := eq_true c109
              have c109b1 : decide ((a0_3.extract 0 (a0_2 : Int).toNat).size + (strOfNums y275).size ≤ 9223372036854775807) = true := decide_eq_true c109
              try have c109b2 : (9223372036854775807 < (a0_3.extract 0 (a0_2 : Int).toNat).size + (strOfNums y275).size) = False := eq_false (Nat.not_lt.2 c109)
              try have c109b8 : (9223372036854775807 < a0_2.toNat + (strOfNums y275).size) = False := eq_false (Nat.not_lt.2 (by have h_ := c109; have g0_ : 0 ≤ a0_2 := pxd; have g_ : a0_2 ≤ (a0_3.size : Int) := pxd; rw [ByteArray.size_extract] at h_; omega))
              try have c109b9 : (a0_2.toNat + (strOfNums y275).size ≤ 9223372036854775807) = True := eq_true (by have h_ := c109; have g0_ : 0 ≤ a0_2 := pxd; have g_ : a0_2 ≤ (a0_3.size : Int) := pxd; rw [ByteArray.size_extract] at h_; omega)
              replace H := Option.bind_eq_some_iff.mp H
              obtain ⟨t278, A1100, H⟩ := H
              replace H : (if t278 = true then (if t266 = 0 then (some (t262 == a0_0 && (t263.toList == a0_1.toList && (t264 == a0_2 && (t265.toList == (((a0_3.extract 0 (a0_2 : Int).toNat) ++ (strOfNums y275)).toList)))))) else (none)) else (if t266 = 81 then (some (t262 == 0 && (t263.toList == ([] : List UInt8) && (t264 == 0 && (t265.toList == ([] : List UInt8)))))) else (none))) = some r := H
              have A110 := Aside0.mk A1100
              clear A1100
              by_cases c111 : t278 = true
              ·subst c111
               have H1 : (if t266 = 0 then (some (t262 == a0_0 && (t263.toList == a0_1.toList && (t264 == a0_2 && (t265.toList == (((a0_3.extract 0 (a0_2 : Int).toNat) ++ (strOfNums y275)).toList)))))) else (none)) = some r := by rw [if_pos rfl] at H; exact H
               clear H
               have H := H1
               clear H1
               by_cases c112 : t266 = 0
               ·rw [if_pos c112] at H
                have c112b0 : (t266 == 0) = true := beq_iff_eq.mpr c112
                have c112b1 : (t266 != 0) = false := bne_eq_false_iff_eq.mpr c112
                clear c112
                obtain rfl := Option.some.inj H
                have hnb113 := NB250_261.out
                have hnc113 := NB261_250.out
                have hnb114 := NB250_267.out
                have hnc114 := NB267_250.out
                have hcz115_0 : wc.cell? ⟨gb250, 0, none⟩ = some (.int .i64 a0_0) := (blk_cell BK250.out 0).trans rfl
                have hcz115_1 : wc.cell? ⟨gb250, 1, none⟩ = some (.string a0_1) := (blk_cell BK250.out 1).trans rfl
                have hcz115_2 : wc.cell? ⟨gb250, 2, none⟩ = some (.int .i64 a0_2) := (blk_cell BK250.out 2).trans rfl
                have hcz115_3 : wc.cell? ⟨gb250, 3, none⟩ = some (.string a0_3) := (blk_cell BK250.out 3).trans rfl
                have hfz115_0 := blk_frozen BK250.out 0
                have hfz115_1 := blk_frozen BK250.out 1
                have hfz115_2 := blk_frozen BK250.out 2
                have hfz115_3 := blk_frozen BK250.out 3
                try go_wp2_with (first | ((with_reducible refine gate_dst (N := 12) rfl ?_); refine box_event ?hg (N := 12) ?hd (cs := #[.int .i64 0, .string (⟨#[]⟩ : ByteArray), .int .i64 0, .string (⟨#[]⟩ : ByteArray)]) (t := 23) ?hr ?_; (case hd => rfl); (case hg => rfl); (case hr => first | (go_simp; done) | (go_simp; rfl)); intro gb274 hg w116 hbox hb; have BK274 := Aside0.mk (hbox); have GW274 := pxw HB hg; have GE274 := pxw HB hg; have NB250_274 := pxn BK250 hg; have NB274_250 := Aside0.mk (pxn BK250 hg).out.symm; have NB261_274 := pxn BK261 hg; have NB274_261 := Aside0.mk (pxn BK261 hg).out.symm; have NB267_274 := pxn BK267 hg; have NB274_267 := Aside0.mk (pxn BK267 hg).out.symm; replace BK250 := pxk BK250 hb; replace BK261 := pxk BK261 hb; replace BK267 := pxk BK267 hb; replace HB := pxs HB hb; clear hb hbox hg; have hnb117 := NB274_250.out; have hnc117 := NB250_274.out; have hnb118 := NB274_261.out; have hnc118 := NB261_274.out; have hnb119 := NB274_267.out; have hnc119 := NB267_274.out; obtain ⟨hcz120_0, hcz120_1, hcz120_2, hcz120_3, hfz120_0, hfz120_1, hfz120_2, hfz120_3⟩ := pxf4 BK274))
                have n0_ : Aside0 (((((w116.setCell ⟨gb274, 0, none⟩ (.int .i64 a0_0)).setCell ⟨gb274, 1, none⟩ (.string a0_1)).setCell ⟨gb274, 2, none⟩ (.int .i64 a0_2)).setCell ⟨gb274, 3, none⟩ (.string a0_3)).heap[gb250]? = some (.cells #[.int .i64 a0_0, .string a0_1, .int .i64 a0_2, .string a0_3] 23 (0, 0))) := ⟨pxp BK250⟩
                have n1_ : Aside0 (((((w116.setCell ⟨gb274, 0, none⟩ (.int .i64 a0_0)).setCell ⟨gb274, 1, none⟩ (.string a0_1)).setCell ⟨gb274, 2, none⟩ (.int .i64 a0_2)).setCell ⟨gb274, 3, none⟩ (.string a0_3)).heap[gb261]? = some (.cells #[.int .i64 t256, .string t257, .int .i64 t258, .string t259] 23 (0, 0))) := ⟨pxp BK261⟩
                have n2_ : Aside0 (((((w116.setCell ⟨gb274, 0, none⟩ (.int .i64 a0_0)).setCell ⟨gb274, 1, none⟩ (.string a0_1)).setCell ⟨gb274, 2, none⟩ (.int .i64 a0_2)).setCell ⟨gb274, 3, none⟩ (.string a0_3)).heap[gb267]? = some (.cells #[.int .i64 t262, .string t263, .int .i64 t264, .string t265] 23 (0, 0))) := ⟨pxp BK267⟩
                have n3_ : Aside0 (((((w116.setCell ⟨gb274, 0, none⟩ (.int .i64 a0_0)).setCell ⟨gb274, 1, none⟩ (.string a0_1)).setCell ⟨gb274, 2, none⟩ (.int .i64 a0_2)).setCell ⟨gb274, 3, none⟩ (.string a0_3)).heap[gb274]? = some (.cells #[.int .i64 a0_0, .string a0_1, .int .i64 a0_2, .string a0_3] 23 (0, 0))) := ⟨pxp BK274⟩
                have n4_ : Aside0 (Below w.heap.size w ((((w116.setCell ⟨gb274, 0, none⟩ (.int .i64 a0_0)).setCell ⟨gb274, 1, none⟩ (.string a0_1)).setCell ⟨gb274, 2, none⟩ (.int .i64 a0_2)).setCell ⟨gb274, 3, none⟩ (.string a0_3))) := ⟨pxb HB⟩
                (try clear BK250)
                (try clear BK261)
                (try clear BK267)
                (try clear BK274)
                (try clear HB)
                generalize ((((w116.setCell ⟨gb274, 0, none⟩ (.int .i64 a0_0)).setCell ⟨gb274, 1, none⟩ (.string a0_1)).setCell ⟨gb274, 2, none⟩ (.int .i64 a0_2)).setCell ⟨gb274, 3, none⟩ (.string a0_3)) = w121 at n0_ n1_ n2_ n3_ n4_ ⊢
                have BK250 := n0_
                have BK261 := n1_
                have BK267 := n2_
                have BK274 := n3_
                have HB := n4_
                clear n0_ n1_ n2_ n3_ n4_
                have n0_ := Aside0.mk (blk_drew BK250.out)
                have n1_ := Aside0.mk (blk_drew BK261.out)
                have n2_ := Aside0.mk (blk_drew BK267.out)
                have n3_ := Aside0.mk (blk_drew BK274.out)
                have n4_ := Aside0.mk (below_drew1 HB.out)
                clear BK250
                clear BK261
                clear BK267
                clear BK274
                clear HB
                have BK250 := n0_
                have BK261 := n1_
                have BK267 := n2_
                have BK274 := n3_
                have HB := n4_
                clear n0_ n1_ n2_ n3_ n4_
                refine start_ (n := 11) (S := fun w' => w'.cell? ⟨gb250, 0, none⟩ = some (.int .i64 a0_0) ∧ w'.cell? ⟨gb250, 1, none⟩ = some (.string a0_1) ∧ w'.cell? ⟨gb250, 2, none⟩ = some (.int .i64 a0_2) ∧ w'.cell? ⟨gb250, 3, none⟩ = some (.string a0_3)) (ds := []) #[false, false, false, false, false, false, false, false, false, false, false] (by kernel_rfl) rfl rfl ⟨(blk_cell BK250.out 0).trans rfl, (blk_cell BK250.out 1).trans rfl, (blk_cell BK250.out 2).trans rfl, (blk_cell BK250.out 3).trans rfl⟩ (fun hHeld => ?_); refine with_tabW caulkerlaw10_KindMarks.tab19 caulkerlaw10_KindMarks.bits19 (fun HT_ HW_ => ?_)
                generalize w121.drew = w122 at BK250 BK261 BK267 BK274 HB hHeld ⊢
                refine pure_ (i := 0) (N := some 125) (v := ?_) (a' := ?_) #[true, false, false, false, false, false, false, false, false, false, false] rfl rfl (any_of HT_.out (by kernel_rfl)) (fun _ _ _ h => h) (Or.inl ⟨by rfl, ?_⟩) ?_ ?_
                rotate_left
                ·intro w'
                 go_simp
                 with_reducible rfl
                rotate_left
                ·simp only [Act.put, List.setIfInBounds_toArray, List.set_cons_zero, List.set_cons_succ, i64_w, i32_w]
                 rfl
                refine pure_ (i := 2) (N := some 127) (v := ?_) (a' := ?_) #[true, false, true, false, false, false, false, false, false, false, false] rfl rfl (any_of HT_.out (by kernel_rfl)) (fun _ _ _ h => h) (Or.inl ⟨by rfl, ?_⟩) ?_ ?_
                rotate_left
                ·intro w'
                 go_simp
                 with_reducible rfl
                rotate_left
                ·simp only [Act.put, List.setIfInBounds_toArray, List.set_cons_zero, List.set_cons_succ, i64_w, i32_w]
                 rfl
                refine pure_ (i := 5) (N := some 130) (v := ?_) (a' := ?_) #[true, false, true, false, false, true, false, false, false, false, false] rfl rfl (any_of HT_.out (by kernel_rfl)) (fun _ _ _ h => h) (Or.inl ⟨by rfl, ?_⟩) ?_ ?_
                rotate_left
                ·intro w'
                 go_simp
                 with_reducible rfl
                rotate_left
                ·simp only [Act.put, List.setIfInBounds_toArray, List.set_cons_zero, List.set_cons_succ, i64_w, i32_w]
                 rfl
                refine take_ (i := 1) (N := some 126) (v := ?_) (a' := ?_) #[true, true, true, false, false, true, false, false, false, false, false] rfl rfl (take_ofW HT_.out HW_.out (by kernel_rfl)) (fun _ _ _ h => h) (Or.inl ⟨by rfl, ?_⟩) hHeld ?_ ?_
                rotate_left
                ·rintro w' ⟨s0, s1, s2, s3⟩
                 go_simp
                 with_reducible rfl
                rotate_left
                ·simp only [Act.put, List.setIfInBounds_toArray, List.set_cons_zero, List.set_cons_succ, i64_w, i32_w]
                 rfl
                refine take_ (i := 3) (N := some 128) (v := ?_) (a' := ?_) #[true, true, true, true, false, true, false, false, false, false, false] rfl rfl (take_ofW HT_.out HW_.out (by kernel_rfl)) (fun _ _ _ h => h) (Or.inl ⟨by rfl, ?_⟩) hHeld ?_ ?_
                rotate_left
                ·rintro w' ⟨s0, s1, s2, s3⟩
                 go_simp
                 with_reducible rfl
                rotate_left
                ·simp only [Act.put, List.setIfInBounds_toArray, List.set_cons_zero, List.set_cons_succ, i64_w, i32_w]
                 rfl
                refine pure_ (i := 4) (N := some 129) (v := ?_) (a' := ?_) #[true, true, true, true, true, true, false, false, false, false, false] rfl rfl (any_of HT_.out (by kernel_rfl)) (fun _ _ _ h => h) (Or.inl ⟨by rfl, ?_⟩) ?_ ?_
                rotate_left
                ·intro w'
                 go_simp
                 with_reducible rfl
                rotate_left
                ·simp only [Act.put, List.setIfInBounds_toArray, List.set_cons_zero, List.set_cons_succ, i64_w, i32_w]
                 rfl
                refine one_ (i := 6) (N := some 131) #[true, true, true, true, true, true, true, false, false, false, false] rfl rfl (one_of HT_.out (by kernel_rfl)) (by decide) (fun K hK => ?_)
                refine Kd.R_lit_step (Kd.int .u8) _ 5 ?hg (N := 131) ?hd (xs := ([a2] : List Int)) (inner := [.int .u8 a2]) (ok := fun _ => True) (okp := fun _ => True) ?hr ?hp (fun _ hk => hk) trivial (Below.refl _ _) (Nat.le_refl _) (by simp) ?_; (case hd => rfl); (case hg => rfl); (case hr => first | (go_simp; done) | (go_simp; rfl)); (case hp => exact (Reps.one (show Kd.M (Kd.int .u8) _ _ _ a2 [.int .u8 a2] from rfl) (Reps.none _ _)))
                intro v276 w123 ho124 hb hg_ hnew_
                clear hg_ hnew_
                (first | rw [← Ny275.out] at ho124 | (simp only [Int.reduceToNat] at ho124; rw [← Ny275.out] at ho124))
                have n0_ := Aside0.mk (Kd.R_lower ho124 (below_size (pxb HB)))
                have n1_ := pxk BK250 hb
                have n2_ := pxk BK261 hb
                have n3_ := pxk BK267 hb
                have n4_ := pxk BK274 hb
                have n5_ := pxs HB hb
                clear BK250
                clear BK261
                clear BK267
                clear BK274
                clear HB
                have HO277 := n0_
                have BK250 := n1_
                have BK261 := n2_
                have BK267 := n3_
                have BK274 := n4_
                have HB := n5_
                clear n0_ n1_ n2_ n3_ n4_ n5_
                clear hb ho124
                refine hK.out _ _ ⟨(blk_cell BK250.out 0).trans rfl, (blk_cell BK250.out 1).trans rfl, (blk_cell BK250.out 2).trans rfl, (blk_cell BK250.out 3).trans rfl⟩ (fun hHeld => ?_)
                clear hK K
                refine norm_ (a' := ?_) ?_ ?_
                rotate_left
                ·show Act.put _ (some 131) _ = _
                 simp only [Act.put, List.setIfInBounds_toArray, List.set_cons_zero, List.set_cons_succ, i64_w, i32_w]
                 rfl
                refine one_ (i := 7) (N := some 132) #[true, true, true, true, true, true, true, true, false, false, false] rfl rfl (one_of HT_.out (by kernel_rfl)) (by decide) (fun K hK => ?_)
                have hcv125 := own_string (P := Try.prog) Try.underlying32 Try.underlying5 Try.underlying9 (Kd.own_of_R HO277.out)
                refine value_ (w1 := ?_) (v := ?_) (by rfl) rfl ?_ ?_
                rotate_left 2
                ·go_simp
                 constructor
                 ·rfl
                 ·rfl
                clear hcv125
                refine hK.out _ _ ⟨(blk_cell BK250.out 0).trans rfl, (blk_cell BK250.out 1).trans rfl, (blk_cell BK250.out 2).trans rfl, (blk_cell BK250.out 3).trans rfl⟩ (fun hHeld => ?_)
                clear hK K
                refine norm_ (a' := ?_) ?_ ?_
                rotate_left
                ·show Act.put _ (some 132) _ = _
                 simp only [Act.put, List.setIfInBounds_toArray, List.set_cons_zero, List.set_cons_succ, i64_w, i32_w]
                 rfl
                refine pure_ (i := 8) (N := some 133) (v := ?_) (a' := ?_) #[true, true, true, true, true, true, true, true, true, false, false] rfl rfl (any_of HT_.out (by kernel_rfl)) (fun _ _ _ h => h) (Or.inl ⟨by rfl, ?_⟩) ?_ ?_
                rotate_left
                ·intro w'
                 go_simp
                 with_reducible rfl
                rotate_left
                ·simp only [Act.put, List.setIfInBounds_toArray, List.set_cons_zero, List.set_cons_succ, i64_w, i32_w]
                 rfl
                refine pure_ (i := 9) (N := some 134) (v := ?_) (a' := ?_) #[true, true, true, true, true, true, true, true, true, true, false] rfl rfl (any_of HT_.out (by kernel_rfl)) (fun _ _ _ h => h) (Or.inl ⟨by rfl, ?_⟩) ?_ ?_
                rotate_left
                ·intro w'
                 go_simp
                 with_reducible rfl
                rotate_left
                ·simp only [Act.put, List.setIfInBounds_toArray, List.set_cons_zero, List.set_cons_succ, i64_w, i32_w]
                 rfl
                refine one_ (i := 10) (N := none) #[true, true, true, true, true, true, true, true, true, true, true] rfl rfl (one_of HT_.out (by kernel_rfl)) (by decide) (fun K hK => ?_)
                have hs126 : w123.cell? ⟨gb274, 3, none⟩ = some (.string a0_3) := (blk_cell BK274.out 3).trans rfl
                have hfs126 := blk_frozen BK274.out 3
                have hns126_0 := NB250_274.out
                have hns126_1 := NB261_274.out
                have hns126_2 := NB267_274.out
                have hms126_0 := NB274_250.out
                have hms126_1 := NB274_261.out
                have hms126_2 := NB274_267.out
                refine skip_ (w1 := ?_) (by rfl) rfl ?_ ?_
                rotate_left
                ·go_simp
                 rfl
                refine hK.out _ _ ⟨((cell_far (p := ⟨gb274, _, none⟩) NB250_274.out _).trans (hHeld.1)), ((cell_far (p := ⟨gb274, _, none⟩) NB250_274.out _).trans (hHeld.2.1)), ((cell_far (p := ⟨gb274, _, none⟩) NB250_274.out _).trans (hHeld.2.2.1)), ((cell_far (p := ⟨gb274, _, none⟩) NB250_274.out _).trans (hHeld.2.2.2))⟩ (fun hHeld => ?_)
                clear hK K
                refine done_ (done_of HT_.out (by kernel_rfl)) ?_
                have hcz127_0 : w123.cell? ⟨gb274, 0, none⟩ = some (.int .i64 a0_0) := (blk_cell BK274.out 0).trans rfl
                have hcz127_1 : w123.cell? ⟨gb274, 1, none⟩ = some (.string a0_1) := (blk_cell BK274.out 1).trans rfl
                have hcz127_2 : w123.cell? ⟨gb274, 2, none⟩ = some (.int .i64 a0_2) := (blk_cell BK274.out 2).trans rfl
                have hcz127_3 : w123.cell? ⟨gb274, 3, none⟩ = some (.string a0_3) := (blk_cell BK274.out 3).trans rfl
                have hfz127_0 := blk_frozen BK274.out 0
                have hfz127_1 := blk_frozen BK274.out 1
                have hfz127_2 := blk_frozen BK274.out 2
                have hfz127_3 := blk_frozen BK274.out 3
                try go_wp2_with (first | ((with_reducible refine gate_callee (f := 18) rfl ?_); refine goesL_ (some 136) rfl rfl Try.func18 (by kernel_rfl) rfl #[.agg #[.int .i64 a0_0, .string a0_1, .int .i64 a0_2, .string ((a0_3.extract 0 (a0_2 : Int).toNat) ++ (strOfNums y275))]] rfl (by (try simp only [List.map_toArray, List.map_cons, List.map_nil]); first | done | rfl | (simp only [List.length_drop, List.length_take]; rfl)) ?_; (with_reducible refine (caulkerref07_Right.calls kj93 a0_0 a0_1 a0_2 ((a0_3.extract 0 (a0_2 : Int).toNat) ++ (strOfNums y275)) true _ A110.out).mono ?_); rintro e w128 ⟨rfl, hb⟩; refine ⟨_, rfl, ?_⟩; replace HO277 := Aside0.mk (Kd.R_below (by (with_reducible repeat (first | apply Kd.R_alloc | apply Kd.R_drewN | apply Kd.R_drew)); exact (Kd.R_mono (Kd.R_far (p := ⟨gb274, 3, none⟩) (Kd.R_types HO277.out BK274.out (by decide)) (fun _ hk => hk.2) (.string ((a0_3.extract 0 (a0_2 : Int).toNat) ++ (strOfNums y275)))) (fun _ h_ => h_.1))) hb); replace BK250 := Aside0.mk (blk_below (g := gb250) (o := .cells #[.int .i64 a0_0, .string a0_1, .int .i64 a0_2, .string a0_3] 23 (0, 0)) (pxp BK250) hb); replace BK261 := Aside0.mk (blk_below (g := gb261) (o := .cells #[.int .i64 t256, .string t257, .int .i64 t258, .string t259] 23 (0, 0)) (pxp BK261) hb); replace BK267 := Aside0.mk (blk_below (g := gb267) (o := .cells #[.int .i64 t262, .string t263, .int .i64 t264, .string t265] 23 (0, 0)) (pxp BK267) hb); replace BK274 := Aside0.mk (blk_below (g := gb274) (o := .cells #[.int .i64 a0_0, .string a0_1, .int .i64 a0_2, .string ((a0_3.extract 0 (a0_2 : Int).toNat) ++ (strOfNums y275))] 23 (0, 0)) (pxp BK274) hb); replace HB := pxs HB hb; (try clear hb); (try clear hb2); (try clear hk); (try clear hi); have hnb129 := NB267_261.out; have hnc129 := NB261_267.out; obtain ⟨hcz130_0, hcz130_1, hcz130_2, hcz130_3, hfz130_0, hfz130_1, hfz130_2, hfz130_3⟩ := pxf4 BK267; obtain ⟨hcz131_0, hcz131_1, hcz131_2, hcz131_3, hfz131_0, hfz131_1, hfz131_2, hfz131_3⟩ := pxf4 BK274))
                go_ret
                exact ⟨by first | rfl | (simp [errW_none, errW_some] <;> rfl) | (simp [*, errW_none, errW_some] <;> rfl) | (simp [*, pxbeq, pxbne, errW_none, errW_some]; done), pxb HB⟩
               ·rw [if_neg c112] at H
                exact absurd H (by simp)
              ·replace c111 := Bool.eq_false_iff.mpr c111
               subst c111
               have H1 : (if t266 = 81 then (some (t262 == 0 && (t263.toList == ([] : List UInt8) && (t264 == 0 && (t265.toList == ([] : List UInt8)))))) else (none)) = some r := by rw [if_neg (show ¬ (false = true) by decide)] at H; exact H
               clear H
               have H := H1
               clear H1
               by_cases c132 : t266 = 81
               ·rw [if_pos c132] at H
                have c132b0 : (t266 == 81) = true := beq_iff_eq.mpr c132
                have c132b1 : (t266 != 81) = false := bne_eq_false_iff_eq.mpr c132
                clear c132
                obtain rfl := Option.some.inj H
                have hnb133 := NB250_261.out
                have hnc133 := NB261_250.out
                have hnb134 := NB250_267.out
                have hnc134 := NB267_250.out
                have hcz135_0 : wc.cell? ⟨gb250, 0, none⟩ = some (.int .i64 a0_0) := (blk_cell BK250.out 0).trans rfl
                have hcz135_1 : wc.cell? ⟨gb250, 1, none⟩ = some (.string a0_1) := (blk_cell BK250.out 1).trans rfl
                have hcz135_2 : wc.cell? ⟨gb250, 2, none⟩ = some (.int .i64 a0_2) := (blk_cell BK250.out 2).trans rfl
                have hcz135_3 : wc.cell? ⟨gb250, 3, none⟩ = some (.string a0_3) := (blk_cell BK250.out 3).trans rfl
                have hfz135_0 := blk_frozen BK250.out 0
                have hfz135_1 := blk_frozen BK250.out 1
                have hfz135_2 := blk_frozen BK250.out 2
                have hfz135_3 := blk_frozen BK250.out 3
                try go_wp2_with (first | ((with_reducible refine gate_dst (N := 12) rfl ?_); refine box_event ?hg (N := 12) ?hd (cs := #[.int .i64 0, .string (⟨#[]⟩ : ByteArray), .int .i64 0, .string (⟨#[]⟩ : ByteArray)]) (t := 23) ?hr ?_; (case hd => rfl); (case hg => rfl); (case hr => first | (go_simp; done) | (go_simp; rfl)); intro gb274 hg w136 hbox hb; have BK274 := Aside0.mk (hbox); have GW274 := pxw HB hg; have GE274 := pxw HB hg; have NB250_274 := pxn BK250 hg; have NB274_250 := Aside0.mk (pxn BK250 hg).out.symm; have NB261_274 := pxn BK261 hg; have NB274_261 := Aside0.mk (pxn BK261 hg).out.symm; have NB267_274 := pxn BK267 hg; have NB274_267 := Aside0.mk (pxn BK267 hg).out.symm; replace BK250 := pxk BK250 hb; replace BK261 := pxk BK261 hb; replace BK267 := pxk BK267 hb; replace HB := pxs HB hb; clear hb hbox hg; have hnb137 := NB274_250.out; have hnc137 := NB250_274.out; have hnb138 := NB274_261.out; have hnc138 := NB261_274.out; have hnb139 := NB274_267.out; have hnc139 := NB267_274.out; obtain ⟨hcz140_0, hcz140_1, hcz140_2, hcz140_3, hfz140_0, hfz140_1, hfz140_2, hfz140_3⟩ := pxf4 BK274))
                have n0_ : Aside0 (((((w136.setCell ⟨gb274, 0, none⟩ (.int .i64 a0_0)).setCell ⟨gb274, 1, none⟩ (.string a0_1)).setCell ⟨gb274, 2, none⟩ (.int .i64 a0_2)).setCell ⟨gb274, 3, none⟩ (.string a0_3)).heap[gb250]? = some (.cells #[.int .i64 a0_0, .string a0_1, .int .i64 a0_2, .string a0_3] 23 (0, 0))) := ⟨pxp BK250⟩
                have n1_ : Aside0 (((((w136.setCell ⟨gb274, 0, none⟩ (.int .i64 a0_0)).setCell ⟨gb274, 1, none⟩ (.string a0_1)).setCell ⟨gb274, 2, none⟩ (.int .i64 a0_2)).setCell ⟨gb274, 3, none⟩ (.string a0_3)).heap[gb261]? = some (.cells #[.int .i64 t256, .string t257, .int .i64 t258, .string t259] 23 (0, 0))) := ⟨pxp BK261⟩
                have n2_ : Aside0 (((((w136.setCell ⟨gb274, 0, none⟩ (.int .i64 a0_0)).setCell ⟨gb274, 1, none⟩ (.string a0_1)).setCell ⟨gb274, 2, none⟩ (.int .i64 a0_2)).setCell ⟨gb274, 3, none⟩ (.string a0_3)).heap[gb267]? = some (.cells #[.int .i64 t262, .string t263, .int .i64 t264, .string t265] 23 (0, 0))) := ⟨pxp BK267⟩
                have n3_ : Aside0 (((((w136.setCell ⟨gb274, 0, none⟩ (.int .i64 a0_0)).setCell ⟨gb274, 1, none⟩ (.string a0_1)).setCell ⟨gb274, 2, none⟩ (.int .i64 a0_2)).setCell ⟨gb274, 3, none⟩ (.string a0_3)).heap[gb274]? = some (.cells #[.int .i64 a0_0, .string a0_1, .int .i64 a0_2, .string a0_3] 23 (0, 0))) := ⟨pxp BK274⟩
                have n4_ : Aside0 (Below w.heap.size w ((((w136.setCell ⟨gb274, 0, none⟩ (.int .i64 a0_0)).setCell ⟨gb274, 1, none⟩ (.string a0_1)).setCell ⟨gb274, 2, none⟩ (.int .i64 a0_2)).setCell ⟨gb274, 3, none⟩ (.string a0_3))) := ⟨pxb HB⟩
                (try clear BK250)
                (try clear BK261)
                (try clear BK267)
                (try clear BK274)
                (try clear HB)
                generalize ((((w136.setCell ⟨gb274, 0, none⟩ (.int .i64 a0_0)).setCell ⟨gb274, 1, none⟩ (.string a0_1)).setCell ⟨gb274, 2, none⟩ (.int .i64 a0_2)).setCell ⟨gb274, 3, none⟩ (.string a0_3)) = w141 at n0_ n1_ n2_ n3_ n4_ ⊢
                have BK250 := n0_
                have BK261 := n1_
                have BK267 := n2_
                have BK274 := n3_
                have HB := n4_
                clear n0_ n1_ n2_ n3_ n4_
                have n0_ := Aside0.mk (blk_drew BK250.out)
                have n1_ := Aside0.mk (blk_drew BK261.out)
                have n2_ := Aside0.mk (blk_drew BK267.out)
                have n3_ := Aside0.mk (blk_drew BK274.out)
                have n4_ := Aside0.mk (below_drew1 HB.out)
                clear BK250
                clear BK261
                clear BK267
                clear BK274
                clear HB
                have BK250 := n0_
                have BK261 := n1_
                have BK267 := n2_
                have BK274 := n3_
                have HB := n4_
                clear n0_ n1_ n2_ n3_ n4_
                refine start_ (n := 11) (S := fun w' => w'.cell? ⟨gb250, 0, none⟩ = some (.int .i64 a0_0) ∧ w'.cell? ⟨gb250, 1, none⟩ = some (.string a0_1) ∧ w'.cell? ⟨gb250, 2, none⟩ = some (.int .i64 a0_2) ∧ w'.cell? ⟨gb250, 3, none⟩ = some (.string a0_3)) (ds := []) #[false, false, false, false, false, false, false, false, false, false, false] (by kernel_rfl) rfl rfl ⟨(blk_cell BK250.out 0).trans rfl, (blk_cell BK250.out 1).trans rfl, (blk_cell BK250.out 2).trans rfl, (blk_cell BK250.out 3).trans rfl⟩ (fun hHeld => ?_); refine with_tabW caulkerlaw10_KindMarks.tab19 caulkerlaw10_KindMarks.bits19 (fun HT_ HW_ => ?_)
                generalize w141.drew = w142 at BK250 BK261 BK267 BK274 HB hHeld ⊢
                refine pure_ (i := 0) (N := some 125) (v := ?_) (a' := ?_) #[true, false, false, false, false, false, false, false, false, false, false] rfl rfl (any_of HT_.out (by kernel_rfl)) (fun _ _ _ h => h) (Or.inl ⟨by rfl, ?_⟩) ?_ ?_
                rotate_left
                ·intro w'
                 go_simp
                 with_reducible rfl
                rotate_left
                ·simp only [Act.put, List.setIfInBounds_toArray, List.set_cons_zero, List.set_cons_succ, i64_w, i32_w]
                 rfl
                refine pure_ (i := 2) (N := some 127) (v := ?_) (a' := ?_) #[true, false, true, false, false, false, false, false, false, false, false] rfl rfl (any_of HT_.out (by kernel_rfl)) (fun _ _ _ h => h) (Or.inl ⟨by rfl, ?_⟩) ?_ ?_
                rotate_left
                ·intro w'
                 go_simp
                 with_reducible rfl
                rotate_left
                ·simp only [Act.put, List.setIfInBounds_toArray, List.set_cons_zero, List.set_cons_succ, i64_w, i32_w]
                 rfl
                refine pure_ (i := 5) (N := some 130) (v := ?_) (a' := ?_) #[true, false, true, false, false, true, false, false, false, false, false] rfl rfl (any_of HT_.out (by kernel_rfl)) (fun _ _ _ h => h) (Or.inl ⟨by rfl, ?_⟩) ?_ ?_
                rotate_left
                ·intro w'
                 go_simp
                 with_reducible rfl
                rotate_left
                ·simp only [Act.put, List.setIfInBounds_toArray, List.set_cons_zero, List.set_cons_succ, i64_w, i32_w]
                 rfl
                refine take_ (i := 1) (N := some 126) (v := ?_) (a' := ?_) #[true, true, true, false, false, true, false, false, false, false, false] rfl rfl (take_ofW HT_.out HW_.out (by kernel_rfl)) (fun _ _ _ h => h) (Or.inl ⟨by rfl, ?_⟩) hHeld ?_ ?_
                rotate_left
                ·rintro w' ⟨s0, s1, s2, s3⟩
                 go_simp
                 with_reducible rfl
                rotate_left
                ·simp only [Act.put, List.setIfInBounds_toArray, List.set_cons_zero, List.set_cons_succ, i64_w, i32_w]
                 rfl
                refine take_ (i := 3) (N := some 128) (v := ?_) (a' := ?_) #[true, true, true, true, false, true, false, false, false, false, false] rfl rfl (take_ofW HT_.out HW_.out (by kernel_rfl)) (fun _ _ _ h => h) (Or.inl ⟨by rfl, ?_⟩) hHeld ?_ ?_
                rotate_left
                ·rintro w' ⟨s0, s1, s2, s3⟩
                 go_simp
                 with_reducible rfl
                rotate_left
                ·simp only [Act.put, List.setIfInBounds_toArray, List.set_cons_zero, List.set_cons_succ, i64_w, i32_w]
                 rfl
                refine pure_ (i := 4) (N := some 129) (v := ?_) (a' := ?_) #[true, true, true, true, true, true, false, false, false, false, false] rfl rfl (any_of HT_.out (by kernel_rfl)) (fun _ _ _ h => h) (Or.inl ⟨by rfl, ?_⟩) ?_ ?_
                rotate_left
                ·intro w'
                 go_simp
                 with_reducible rfl
                rotate_left
                ·simp only [Act.put, List.setIfInBounds_toArray, List.set_cons_zero, List.set_cons_succ, i64_w, i32_w]
                 rfl
                refine one_ (i := 6) (N := some 131) #[true, true, true, true, true, true, true, false, false, false, false] rfl rfl (one_of HT_.out (by kernel_rfl)) (by decide) (fun K hK => ?_)
                refine Kd.R_lit_step (Kd.int .u8) _ 5 ?hg (N := 131) ?hd (xs := ([a2] : List Int)) (inner := [.int .u8 a2]) (ok := fun _ => True) (okp := fun _ => True) ?hr ?hp (fun _ hk => hk) trivial (Below.refl _ _) (Nat.le_refl _) (by simp) ?_; (case hd => rfl); (case hg => rfl); (case hr => first | (go_simp; done) | (go_simp; rfl)); (case hp => exact (Reps.one (show Kd.M (Kd.int .u8) _ _ _ a2 [.int .u8 a2] from rfl) (Reps.none _ _)))
                intro v276 w143 ho144 hb hg_ hnew_
                clear hg_ hnew_
                (first | rw [← Ny275.out] at ho144 | (simp only [Int.reduceToNat] at ho144; rw [← Ny275.out] at ho144))
                have n0_ := Aside0.mk (Kd.R_lower ho144 (below_size (pxb HB)))
                have n1_ := pxk BK250 hb
                have n2_ := pxk BK261 hb
                have n3_ := pxk BK267 hb
                have n4_ := pxk BK274 hb
                have n5_ := pxs HB hb
                clear BK250
                clear BK261
                clear BK267
                clear BK274
                clear HB
                have HO277 := n0_
                have BK250 := n1_
                have BK261 := n2_
                have BK267 := n3_
                have BK274 := n4_
                have HB := n5_
                clear n0_ n1_ n2_ n3_ n4_ n5_
                clear hb ho144
                refine hK.out _ _ ⟨(blk_cell BK250.out 0).trans rfl, (blk_cell BK250.out 1).trans rfl, (blk_cell BK250.out 2).trans rfl, (blk_cell BK250.out 3).trans rfl⟩ (fun hHeld => ?_)
                clear hK K
                refine norm_ (a' := ?_) ?_ ?_
                rotate_left
                ·show Act.put _ (some 131) _ = _
                 simp only [Act.put, List.setIfInBounds_toArray, List.set_cons_zero, List.set_cons_succ, i64_w, i32_w]
                 rfl
                refine one_ (i := 7) (N := some 132) #[true, true, true, true, true, true, true, true, false, false, false] rfl rfl (one_of HT_.out (by kernel_rfl)) (by decide) (fun K hK => ?_)
                have hcv145 := own_string (P := Try.prog) Try.underlying32 Try.underlying5 Try.underlying9 (Kd.own_of_R HO277.out)
                refine value_ (w1 := ?_) (v := ?_) (by rfl) rfl ?_ ?_
                rotate_left 2
                ·go_simp
                 constructor
                 ·rfl
                 ·rfl
                clear hcv145
                refine hK.out _ _ ⟨(blk_cell BK250.out 0).trans rfl, (blk_cell BK250.out 1).trans rfl, (blk_cell BK250.out 2).trans rfl, (blk_cell BK250.out 3).trans rfl⟩ (fun hHeld => ?_)
                clear hK K
                refine norm_ (a' := ?_) ?_ ?_
                rotate_left
                ·show Act.put _ (some 132) _ = _
                 simp only [Act.put, List.setIfInBounds_toArray, List.set_cons_zero, List.set_cons_succ, i64_w, i32_w]
                 rfl
                refine pure_ (i := 8) (N := some 133) (v := ?_) (a' := ?_) #[true, true, true, true, true, true, true, true, true, false, false] rfl rfl (any_of HT_.out (by kernel_rfl)) (fun _ _ _ h => h) (Or.inl ⟨by rfl, ?_⟩) ?_ ?_
                rotate_left
                ·intro w'
                 go_simp
                 with_reducible rfl
                rotate_left
                ·simp only [Act.put, List.setIfInBounds_toArray, List.set_cons_zero, List.set_cons_succ, i64_w, i32_w]
                 rfl
                refine pure_ (i := 9) (N := some 134) (v := ?_) (a' := ?_) #[true, true, true, true, true, true, true, true, true, true, false] rfl rfl (any_of HT_.out (by kernel_rfl)) (fun _ _ _ h => h) (Or.inl ⟨by rfl, ?_⟩) ?_ ?_
                rotate_left
                ·intro w'
                 go_simp
                 with_reducible rfl
                rotate_left
                ·simp only [Act.put, List.setIfInBounds_toArray, List.set_cons_zero, List.set_cons_succ, i64_w, i32_w]
                 rfl
                refine one_ (i := 10) (N := none) #[true, true, true, true, true, true, true, true, true, true, true] rfl rfl (one_of HT_.out (by kernel_rfl)) (by decide) (fun K hK => ?_)
                have hs146 : w143.cell? ⟨gb274, 3, none⟩ = some (.string a0_3) := (blk_cell BK274.out 3).trans rfl
                have hfs146 := blk_frozen BK274.out 3
                have hns146_0 := NB250_274.out
                have hns146_1 := NB261_274.out
                have hns146_2 := NB267_274.out
                have hms146_0 := NB274_250.out
                have hms146_1 := NB274_261.out
                have hms146_2 := NB274_267.out
                refine skip_ (w1 := ?_) (by rfl) rfl ?_ ?_
                rotate_left
                ·go_simp
                 rfl
                refine hK.out _ _ ⟨((cell_far (p := ⟨gb274, _, none⟩) NB250_274.out _).trans (hHeld.1)), ((cell_far (p := ⟨gb274, _, none⟩) NB250_274.out _).trans (hHeld.2.1)), ((cell_far (p := ⟨gb274, _, none⟩) NB250_274.out _).trans (hHeld.2.2.1)), ((cell_far (p := ⟨gb274, _, none⟩) NB250_274.out _).trans (hHeld.2.2.2))⟩ (fun hHeld => ?_)
                clear hK K
                refine done_ (done_of HT_.out (by kernel_rfl)) ?_
                have hcz147_0 : w143.cell? ⟨gb274, 0, none⟩ = some (.int .i64 a0_0) := (blk_cell BK274.out 0).trans rfl
                have hcz147_1 : w143.cell? ⟨gb274, 1, none⟩ = some (.string a0_1) := (blk_cell BK274.out 1).trans rfl
                have hcz147_2 : w143.cell? ⟨gb274, 2, none⟩ = some (.int .i64 a0_2) := (blk_cell BK274.out 2).trans rfl
                have hcz147_3 : w143.cell? ⟨gb274, 3, none⟩ = some (.string a0_3) := (blk_cell BK274.out 3).trans rfl
                have hfz147_0 := blk_frozen BK274.out 0
                have hfz147_1 := blk_frozen BK274.out 1
                have hfz147_2 := blk_frozen BK274.out 2
                have hfz147_3 := blk_frozen BK274.out 3
                try go_wp2_with (first | ((with_reducible refine gate_callee (f := 18) rfl ?_); refine goesL_ (some 136) rfl rfl Try.func18 (by kernel_rfl) rfl #[.agg #[.int .i64 a0_0, .string a0_1, .int .i64 a0_2, .string ((a0_3.extract 0 (a0_2 : Int).toNat) ++ (strOfNums y275))]] rfl (by (try simp only [List.map_toArray, List.map_cons, List.map_nil]); first | done | rfl | (simp only [List.length_drop, List.length_take]; rfl)) ?_; (with_reducible refine (caulkerref07_Right.calls kj93 a0_0 a0_1 a0_2 ((a0_3.extract 0 (a0_2 : Int).toNat) ++ (strOfNums y275)) false _ A110.out).mono ?_); rintro e w148 ⟨rfl, hb⟩; refine ⟨_, rfl, ?_⟩; replace HO277 := Aside0.mk (Kd.R_below (by (with_reducible repeat (first | apply Kd.R_alloc | apply Kd.R_drewN | apply Kd.R_drew)); exact (Kd.R_mono (Kd.R_far (p := ⟨gb274, 3, none⟩) (Kd.R_types HO277.out BK274.out (by decide)) (fun _ hk => hk.2) (.string ((a0_3.extract 0 (a0_2 : Int).toNat) ++ (strOfNums y275)))) (fun _ h_ => h_.1))) hb); replace BK250 := Aside0.mk (blk_below (g := gb250) (o := .cells #[.int .i64 a0_0, .string a0_1, .int .i64 a0_2, .string a0_3] 23 (0, 0)) (pxp BK250) hb); replace BK261 := Aside0.mk (blk_below (g := gb261) (o := .cells #[.int .i64 t256, .string t257, .int .i64 t258, .string t259] 23 (0, 0)) (pxp BK261) hb); replace BK267 := Aside0.mk (blk_below (g := gb267) (o := .cells #[.int .i64 t262, .string t263, .int .i64 t264, .string t265] 23 (0, 0)) (pxp BK267) hb); replace BK274 := Aside0.mk (blk_below (g := gb274) (o := .cells #[.int .i64 a0_0, .string a0_1, .int .i64 a0_2, .string ((a0_3.extract 0 (a0_2 : Int).toNat) ++ (strOfNums y275))] 23 (0, 0)) (pxp BK274) hb); replace HB := pxs HB hb; (try clear hb); (try clear hb2); (try clear hk); (try clear hi); have hnb149 := NB267_261.out; have hnc149 := NB261_267.out; obtain ⟨hcz150_0, hcz150_1, hcz150_2, hcz150_3, hfz150_0, hfz150_1, hfz150_2, hfz150_3⟩ := pxf4 BK267))
                go_ret
                exact ⟨by first | rfl | (simp [errW_none, errW_some] <;> rfl) | (simp [*, errW_none, errW_some] <;> rfl) | (simp [*, pxbeq, pxbne, errW_none, errW_some]; done), pxb HB⟩
               ·rw [if_neg c132] at H
                exact absurd H (by simp)
             ·rw [if_neg c109] at H
              exact absurd H (by simp)
            ·rw [if_neg c108] at H
             exact absurd H (by simp)
           ·rw [if_neg c107] at H
            exact absurd H (by simp)
   ·replace c11 := Bool.eq_false_iff.mpr c11
    subst c11
    have H1 : (if t260 = 130 then (if t266 = 130 then (if (t256 == 0 && (t257.toList == ([] : List UInt8) && (t258 == 0 && (t259.toList == ([] : List UInt8))))) = true then (some (t262 == 0 && (t263.toList == ([] : List UInt8) && (t264 == 0 && (t265.toList == ([] : List UInt8)))))) else (none)) else (none)) else (none)) = some r := by rw [if_neg (show ¬ (false = true) by decide)] at H; exact H
    clear H
    have H := H1
    clear H1
    by_cases c151 : t260 = 130
    ·rw [if_pos c151] at H
     have c151b0 : (t260 == 130) = true := beq_iff_eq.mpr c151
     have c151b1 : (t260 != 130) = false := bne_eq_false_iff_eq.mpr c151
     clear c151
     by_cases c152 : t266 = 130
     ·rw [if_pos c152] at H
      have c152b0 : (t266 == 130) = true := beq_iff_eq.mpr c152
      have c152b1 : (t266 != 130) = false := bne_eq_false_iff_eq.mpr c152
      clear c152
      by_cases c153 : (t256 == 0 && (t257.toList == ([] : List UInt8) && (t258 == 0 && (t259.toList == ([] : List UInt8))))) = true
      ·rw [if_pos c153] at H
       have c153b0 : (t256 == 0 && (t257.toList == ([] : List UInt8) && (t258 == 0 && (t259.toList == ([] : List UInt8))))) = true := c153
       (try (have c153b0e : (t256 == 0 && (t257.toList.isEmpty && (t258 == 0 && (t259.toList.isEmpty)))) = true := by simpa only [pxbeq, pxbne] using c153b0))
       (try (have c153b1 : decide (t256 = 0 && (t257.toList == ([] : List UInt8) && (t258 == 0 && (t259.toList == ([] : List UInt8))))) = true := by simpa using c153))
       (try (have c153b1e : decide (t256 = 0 && (t257.toList.isEmpty && (t258 == 0 && (t259.toList.isEmpty)))) = true := by simpa only [pxbeq, pxbne] using c153b1))
       (try (have c153b2 : (t256 == 0 && (t257.toList == ([] : List UInt8) && (t258 == 0 && (t259.toList == ([] : List UInt8))))) = true := by simpa using c153))
       (try (have c153b2e : (t256 == 0 && (t257.toList.isEmpty && (t258 == 0 && (t259.toList.isEmpty)))) = true := by simpa only [pxbeq, pxbne] using c153b2))
       clear c153
       obtain rfl := Option.some.inj H
       go_enter Try.func4, Try.ntmps4
       go_wp2_with (first | ((with_reducible refine gate_dst (N := 3) rfl ?_); refine box_event ?hg (N := 3) ?hd (cs := #[.int .i64 a0_0, .string a0_1, .int .i64 a0_2, .string a0_3]) (t := 23) ?hr ?_; (case hd => rfl); (case hg => rfl); (case hr => first | (go_simp; done) | (go_simp; rfl)); intro gb250 hg w154 hbox hb; have BK250 := Aside0.mk (hbox); have GW250 := pxw HB hg; have GE250 := pxw HB hg; replace HB := pxs HB hb; clear hb hbox hg) | ((with_reducible refine gate_callee (f := 9) rfl ?_); refine goesL_ (some 13) rfl rfl Try.func9 (by kernel_rfl) rfl #[] rfl (by (try simp only [List.map_toArray, List.map_cons, List.map_nil]); first | done | rfl | (simp only [List.length_drop, List.length_take]; rfl)) ?_; (with_reducible refine (caulkerlaw10_sorts.calls k  true _ A4.out).mono ?_); rintro e w155 ⟨rfl, hb⟩; refine ⟨_, rfl, ?_⟩; replace BK250 := pxk BK250 hb; replace HB := pxs HB hb; (try clear hb); (try clear hb2); (try clear hk); (try clear hi); obtain ⟨hcz156_0, hcz156_1, hcz156_2, hcz156_3, hfz156_0, hfz156_1, hfz156_2, hfz156_3⟩ := pxf4 BK250) | ((with_reducible refine gate_dst (N := 16) rfl ?_); refine Kd.R_lit k23 _ 23 ?hg (N := 16) ?hd (xs := ([(⟨a0_0, a0_1, a0_2, a0_3⟩ : S23)] : List (S23))) (inner := [.int .i64 a0_0, .string a0_1, .int .i64 a0_2, .string a0_3]) (ok := fun _ => True) (okp := fun _ => True) ?hr ?hp (fun _ hk => hk) trivial (Below.refl _ _) (Nat.le_refl _) (by simp) ?_; (case hd => rfl); (case hg => rfl); (case hr => first | (go_simp; done) | (go_simp; rfl)); (case hp => exact (Reps.c4 (show Kd.M k23 _ _ _ (⟨a0_0, a0_1, a0_2, a0_3⟩ : S23) [.int .i64 a0_0, .string a0_1, .int .i64 a0_2, .string a0_3] from (k23_mkM _ _ _ (⟨a0_0, a0_1, a0_2, a0_3⟩ : S23) )) (Reps.none _ _))); intro v253 w157 ho158 hb hg_ hnew_; clear hg_ hnew_; (first | rw [← Ny252.out] at ho158 | (simp only [Int.reduceToNat] at ho158; rw [← Ny252.out] at ho158)); have HO254 := Aside0.mk (Kd.R_lower (Kd.R_newB ho158 (g := gb250) (o := .cells #[.int .i64 a0_0, .string a0_1, .int .i64 a0_2, .string a0_3] 23 (0, 0)) (pxq BK250)) (below_size (pxb HB))); replace BK250 := pxk BK250 hb; replace HB := pxs HB hb; clear hb ho158; obtain ⟨Ao159, co159, eo159⟩ := Kd.R_slice HO254.out; subst eo159) | ((with_reducible refine gate_callee (f := 10) rfl ?_); refine goesL_ (some 17) rfl rfl Try.func10 (by kernel_rfl) rfl #[.slice Ao159 y252.length co159] rfl (by (try simp only [List.map_toArray, List.map_cons, List.map_nil]); first | done | rfl | (simp only [List.length_drop, List.length_take]; rfl)) ?_; (with_reducible refine (caulkerlaw10_small.calls k _ _ y252 true _ ?side1 ?side2 A6.out).mono ?_); (case side1 => repeat (first | exact (Kd.R_reads' HO254.out).2.2 | (with_reducible refine Kd.C_alloc ?_ _) | (with_reducible refine Kd.C_drewN ?_ _) | (with_reducible refine Kd.C_drew ?_))); (case side2 => exact (Kd.R_reads' HO254.out).2.1); rintro e w160 ⟨rfl, hb⟩; refine ⟨_, rfl, ?_⟩; replace HO254 := Aside0.mk (Kd.R_below (pxr HO254) hb); replace BK250 := pxk BK250 hb; replace HB := pxs HB hb; (try clear hb); (try clear hb2); (try clear hk); (try clear hi); obtain ⟨hcz161_0, hcz161_1, hcz161_2, hcz161_3, hfz161_0, hfz161_1, hfz161_2, hfz161_3⟩ := pxf4 BK250) | ((with_reducible refine gate_callee (f := 15) rfl ?_); refine goesL_ (some 23) rfl rfl Try.func15 (by kernel_rfl) rfl #[.agg #[.int .i64 a0_0, .string a0_1, .int .i64 a0_2, .string a0_3], .int .i64 a1, .int .u8 a2] rfl (by (try simp only [List.map_toArray, List.map_cons, List.map_nil]); first | done | rfl | (simp only [List.length_drop, List.length_take]; rfl)) ?_; (with_reducible refine (kind_Mark.calls k a0_0 a0_1 a0_2 a0_3 a1 a2 t256 t257 t258 t259 t260 _ A8.out).mono ?_); rintro e w162 ⟨rfl, hb⟩; refine ⟨_, rfl, ?_⟩; replace HO254 := Aside0.mk (Kd.R_below (pxr HO254) hb); replace BK250 := pxk BK250 hb; replace HB := pxs HB hb; (try clear hb); (try clear hb2); (try clear hk); (try clear hi)) | ((with_reducible refine gate_dst (N := 7) rfl ?_); refine box_event ?hg (N := 7) ?hd (cs := #[.int .i64 0, .string (⟨#[]⟩ : ByteArray), .int .i64 0, .string (⟨#[]⟩ : ByteArray)]) (t := 23) ?hr ?_; (case hd => rfl); (case hg => rfl); (case hr => first | (go_simp; done) | (go_simp; rfl)); intro gb261 hg w163 hbox hb; have BK261 := Aside0.mk (hbox); have GW261 := pxw HB hg; have GE261 := pxw HB hg; have NB250_261 := pxn BK250 hg; have NB261_250 := Aside0.mk (pxn BK250 hg).out.symm; replace HO254 := Aside0.mk (Kd.R_below (Kd.R_elderB (pxr HO254) gb261 (Nat.le_of_eq hg.symm)) hb); replace BK250 := pxk BK250 hb; replace HB := pxs HB hb; clear hb hbox hg; have hnb164 := NB261_250.out; have hnc164 := NB250_261.out; obtain ⟨hcz165_0, hcz165_1, hcz165_2, hcz165_3, hfz165_0, hfz165_1, hfz165_2, hfz165_3⟩ := pxf4 BK261; obtain ⟨hcz166_0, hcz166_1, hcz166_2, hcz166_3, hfz166_0, hfz166_1, hfz166_2, hfz166_3⟩ := pxf4 BK250) | ((with_reducible refine gate_callee (f := 16) rfl ?_); refine goesL_ (some 29) rfl rfl Try.func16 (by kernel_rfl) rfl #[.agg #[.int .i64 a0_0, .string a0_1, .int .i64 a0_2, .string a0_3], .int .u8 a2] rfl (by (try simp only [List.map_toArray, List.map_cons, List.map_nil]); first | done | rfl | (simp only [List.length_drop, List.length_take]; rfl)) ?_; (with_reducible refine (kind_With.calls k a0_0 a0_1 a0_2 a0_3 a2 t262 t263 t264 t265 t266 _ A9.out).mono ?_); rintro e w167 ⟨rfl, hb⟩; refine ⟨_, rfl, ?_⟩; replace HO254 := Aside0.mk (Kd.R_below (by (with_reducible repeat (first | apply Kd.R_alloc | apply Kd.R_drewN | apply Kd.R_drew)); exact (Kd.R_mono (Kd.R_far (p := ⟨gb261, 3, none⟩) (Kd.R_far (p := ⟨gb261, 2, none⟩) (Kd.R_far (p := ⟨gb261, 1, none⟩) (Kd.R_far (p := ⟨gb261, 0, none⟩) (Kd.R_mono HO254.out (fun k_ hk => (⟨hk, hk.2⟩ : _ ∧ k_ ≠ gb261))) (fun _ hk => hk.2) (.int .i64 t256)) (fun _ hk => hk.2) (.string t257)) (fun _ hk => hk.2) (.int .i64 t258)) (fun _ hk => hk.2) (.string t259)) (fun _ h_ => h_.1))) hb); replace BK250 := Aside0.mk (blk_below (g := gb250) (o := .cells #[.int .i64 a0_0, .string a0_1, .int .i64 a0_2, .string a0_3] 23 (0, 0)) (pxp BK250) hb); replace BK261 := Aside0.mk (blk_below (g := gb261) (o := .cells #[.int .i64 t256, .string t257, .int .i64 t258, .string t259] 23 (0, 0)) (pxp BK261) hb); replace HB := pxs HB hb; (try clear hb); (try clear hb2); (try clear hk); (try clear hi)) | ((with_reducible refine gate_dst (N := 9) rfl ?_); refine box_event ?hg (N := 9) ?hd (cs := #[.int .i64 0, .string (⟨#[]⟩ : ByteArray), .int .i64 0, .string (⟨#[]⟩ : ByteArray)]) (t := 23) ?hr ?_; (case hd => rfl); (case hg => rfl); (case hr => first | (go_simp; done) | (go_simp; rfl)); intro gb267 hg w168 hbox hb; have BK267 := Aside0.mk (hbox); have GW267 := pxw HB hg; have GE267 := pxw HB hg; have NB250_267 := pxn BK250 hg; have NB267_250 := Aside0.mk (pxn BK250 hg).out.symm; have NB261_267 := pxn BK261 hg; have NB267_261 := Aside0.mk (pxn BK261 hg).out.symm; replace HO254 := Aside0.mk (Kd.R_below (Kd.R_elderB (pxr HO254) gb267 (Nat.le_of_eq hg.symm)) hb); replace BK250 := pxk BK250 hb; replace BK261 := pxk BK261 hb; replace HB := pxs HB hb; clear hb hbox hg; have hnb169 := NB267_250.out; have hnc169 := NB250_267.out; have hnb170 := NB267_261.out; have hnc170 := NB261_267.out; obtain ⟨hcz171_0, hcz171_1, hcz171_2, hcz171_3, hfz171_0, hfz171_1, hfz171_2, hfz171_3⟩ := pxf4 BK267; obtain ⟨hcz172_0, hcz172_1, hcz172_2, hcz172_3, hfz172_0, hfz172_1, hfz172_2, hfz172_3⟩ := pxf4 BK250) | ((with_reducible refine gate_callee (f := 17) rfl ?_); refine goesL_ (some 33) rfl rfl Try.func17 (by kernel_rfl) rfl #[.agg #[.int .i64 a0_0, .string a0_1, .int .i64 a0_2, .string a0_3]] rfl (by (try simp only [List.map_toArray, List.map_cons, List.map_nil]); first | done | rfl | (simp only [List.length_drop, List.length_take]; rfl)) ?_; (with_reducible refine (caulkerlaw10_plain.calls k a0_0 a0_1 a0_2 a0_3 false _ A10.out).mono ?_); rintro e w173 ⟨rfl, hb⟩; refine ⟨_, rfl, ?_⟩; replace HO254 := Aside0.mk (Kd.R_below (by (with_reducible repeat (first | apply Kd.R_alloc | apply Kd.R_drewN | apply Kd.R_drew)); exact (Kd.R_mono (Kd.R_far (p := ⟨gb267, 3, none⟩) (Kd.R_far (p := ⟨gb267, 2, none⟩) (Kd.R_far (p := ⟨gb267, 1, none⟩) (Kd.R_far (p := ⟨gb267, 0, none⟩) (Kd.R_mono HO254.out (fun k_ hk => (⟨hk, hk.2⟩ : _ ∧ k_ ≠ gb267))) (fun _ hk => hk.2) (.int .i64 t262)) (fun _ hk => hk.2) (.string t263)) (fun _ hk => hk.2) (.int .i64 t264)) (fun _ hk => hk.2) (.string t265)) (fun _ h_ => h_.1))) hb); replace BK250 := Aside0.mk (blk_below (g := gb250) (o := .cells #[.int .i64 a0_0, .string a0_1, .int .i64 a0_2, .string a0_3] 23 (0, 0)) (pxp BK250) hb); replace BK261 := Aside0.mk (blk_below (g := gb261) (o := .cells #[.int .i64 t256, .string t257, .int .i64 t258, .string t259] 23 (0, 0)) (pxp BK261) hb); replace BK267 := Aside0.mk (blk_below (g := gb267) (o := .cells #[.int .i64 t262, .string t263, .int .i64 t264, .string t265] 23 (0, 0)) (pxp BK267) hb); replace HB := pxs HB hb; (try clear hb); (try clear hb2); (try clear hk); (try clear hi); obtain ⟨hcz174_0, hcz174_1, hcz174_2, hcz174_3, hfz174_0, hfz174_1, hfz174_2, hfz174_3⟩ := pxf4 BK261; obtain ⟨hcz175_0, hcz175_1, hcz175_2, hcz175_3, hfz175_0, hfz175_1, hfz175_2, hfz175_3⟩ := pxf4 BK267))
       go_ret
       exact ⟨by first | rfl | (simp [errW_none, errW_some] <;> rfl) | (simp [*, errW_none, errW_some] <;> rfl) | (simp [*, pxbeq, pxbne, errW_none, errW_some]; done), pxb HB⟩
      ·rw [if_neg c153] at H
       exact absurd H (by simp)
     ·rw [if_neg c152] at H
      exact absurd H (by simp)
    ·rw [if_neg c151] at H
     exact absurd H (by simp)
  ·replace c7 := Bool.eq_false_iff.mpr c7
   subst c7
   have H1 : (some true) = some r := by rw [if_neg (show ¬ (false = true) by decide)] at H; exact H
   clear H
   have H := H1
   clear H1
   obtain rfl := Option.some.inj H
   go_enter Try.func4, Try.ntmps4
   go_wp2_with (first | ((with_reducible refine gate_dst (N := 3) rfl ?_); refine box_event ?hg (N := 3) ?hd (cs := #[.int .i64 a0_0, .string a0_1, .int .i64 a0_2, .string a0_3]) (t := 23) ?hr ?_; (case hd => rfl); (case hg => rfl); (case hr => first | (go_simp; done) | (go_simp; rfl)); intro gb250 hg w176 hbox hb; have BK250 := Aside0.mk (hbox); have GW250 := pxw HB hg; have GE250 := pxw HB hg; replace HB := pxs HB hb; clear hb hbox hg) | ((with_reducible refine gate_callee (f := 9) rfl ?_); refine goesL_ (some 13) rfl rfl Try.func9 (by kernel_rfl) rfl #[] rfl (by (try simp only [List.map_toArray, List.map_cons, List.map_nil]); first | done | rfl | (simp only [List.length_drop, List.length_take]; rfl)) ?_; (with_reducible refine (caulkerlaw10_sorts.calls k  true _ A4.out).mono ?_); rintro e w177 ⟨rfl, hb⟩; refine ⟨_, rfl, ?_⟩; replace BK250 := pxk BK250 hb; replace HB := pxs HB hb; (try clear hb); (try clear hb2); (try clear hk); (try clear hi); obtain ⟨hcz178_0, hcz178_1, hcz178_2, hcz178_3, hfz178_0, hfz178_1, hfz178_2, hfz178_3⟩ := pxf4 BK250) | ((with_reducible refine gate_dst (N := 16) rfl ?_); refine Kd.R_lit k23 _ 23 ?hg (N := 16) ?hd (xs := ([(⟨a0_0, a0_1, a0_2, a0_3⟩ : S23)] : List (S23))) (inner := [.int .i64 a0_0, .string a0_1, .int .i64 a0_2, .string a0_3]) (ok := fun _ => True) (okp := fun _ => True) ?hr ?hp (fun _ hk => hk) trivial (Below.refl _ _) (Nat.le_refl _) (by simp) ?_; (case hd => rfl); (case hg => rfl); (case hr => first | (go_simp; done) | (go_simp; rfl)); (case hp => exact (Reps.c4 (show Kd.M k23 _ _ _ (⟨a0_0, a0_1, a0_2, a0_3⟩ : S23) [.int .i64 a0_0, .string a0_1, .int .i64 a0_2, .string a0_3] from (k23_mkM _ _ _ (⟨a0_0, a0_1, a0_2, a0_3⟩ : S23) )) (Reps.none _ _))); intro v253 w179 ho180 hb hg_ hnew_; clear hg_ hnew_; (first | rw [← Ny252.out] at ho180 | (simp only [Int.reduceToNat] at ho180; rw [← Ny252.out] at ho180)); have HO254 := Aside0.mk (Kd.R_lower (Kd.R_newB ho180 (g := gb250) (o := .cells #[.int .i64 a0_0, .string a0_1, .int .i64 a0_2, .string a0_3] 23 (0, 0)) (pxq BK250)) (below_size (pxb HB))); replace BK250 := pxk BK250 hb; replace HB := pxs HB hb; clear hb ho180; obtain ⟨Ao181, co181, eo181⟩ := Kd.R_slice HO254.out; subst eo181) | ((with_reducible refine gate_callee (f := 10) rfl ?_); refine goesL_ (some 17) rfl rfl Try.func10 (by kernel_rfl) rfl #[.slice Ao181 y252.length co181] rfl (by (try simp only [List.map_toArray, List.map_cons, List.map_nil]); first | done | rfl | (simp only [List.length_drop, List.length_take]; rfl)) ?_; (with_reducible refine (caulkerlaw10_small.calls k _ _ y252 false _ ?side1 ?side2 A6.out).mono ?_); (case side1 => repeat (first | exact (Kd.R_reads' HO254.out).2.2 | (with_reducible refine Kd.C_alloc ?_ _) | (with_reducible refine Kd.C_drewN ?_ _) | (with_reducible refine Kd.C_drew ?_))); (case side2 => exact (Kd.R_reads' HO254.out).2.1); rintro e w182 ⟨rfl, hb⟩; refine ⟨_, rfl, ?_⟩; replace HO254 := Aside0.mk (Kd.R_below (pxr HO254) hb); replace BK250 := pxk BK250 hb; replace HB := pxs HB hb; (try clear hb); (try clear hb2); (try clear hk); (try clear hi)))
   go_ret
   exact ⟨by first | rfl | (simp [errW_none, errW_some] <;> rfl) | (simp [*, errW_none, errW_some] <;> rfl) | (simp [*, pxbeq, pxbne, errW_none, errW_some]; done), pxb HB⟩
 ·replace c5 := Bool.eq_false_iff.mpr c5
  subst c5
  have H1 : (none) = some r := by rw [if_neg (show ¬ (false = true) by decide)] at H; exact H
  clear H
  have H := H1
  clear H1
  exact absurd H (by simp)

/-- THE ONE PURE STATEMENT of caulkerlaw10_KindMarks. -/
def caulkerlaw10_KindMarks.Pure : Prop := ∀ (a0_0 : Int) (a0_1 : ByteArray) (a0_2 : Int) (a0_3 : ByteArray) (a1 : Int) (a2 : Int), good23 ((⟨a0_0, a0_1, a0_2, a0_3⟩ : S23)) → (Lit.int .i64 a1).wf = true → (Lit.int .u8 a2).wf = true → ∃ k, caulkerlaw10_KindMarks.f k a0_0 a0_1 a0_2 a0_3 a1 a2 = some true

end Go.Proofs.Ytljchkghnmnpgaa.X
