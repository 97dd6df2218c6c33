/- What the program's functions answer, as Lean functions, and that each call does just that; no condition. Written by a program (px.py) out of the translation. -/
import Derived.Test.YtljchkghnmnpgaaX0
import Derived.Test.YtljchkghnmnpgaaXE23
import Derived.Test.YtljchkghnmnpgaaX21
import Derived.Test.YtljchkghnmnpgaaX19
import Derived.Test.YtljchkghnmnpgaaX20
import Derived.Test.YtljchkghnmnpgaaX9
import Derived.Test.YtljchkghnmnpgaaX10
import Derived.Test.YtljchkghnmnpgaaX11
import Derived.Test.YtljchkghnmnpgaaX17
import Derived.Test.YtljchkghnmnpgaaShort2
namespace Go.Proofs.Ytljchkghnmnpgaa.X
open Go.RowKit Go.Proofs.YtljchkghnmnpgaaW.PrintWords Go.Proofs.YtljchkghnmnpgaaW.PrintLast Go.Proofs.YtljchkghnmnpgaaW.PrintMore
attribute [local go_sem] max2_int min2_int max_two min_two max_three min_three max_four min_four   -- for this text's walks alone
set_option linter.unusedVariables false
set_option linter.unusedSimpArgs false

attribute [local go_sem high] eqA23
/-! ### caulkerlaw10_KindArrays: function 5 -/
mutual
def caulkerlaw10_KindArrays.j0 : Nat → Int → Int → Bool → Int → ByteArray → Int → ByteArray → Int → ByteArray → Int → ByteArray → Int → ByteArray → Int → ByteArray → Option (Bool)
 | 0, _, _, _, _, _, _, _, _, _, _, _, _, _, _, _ => none
 | k + 1, x4, x6, x74, x280000, x280001, x280002, x280003, x291000, x291001, x291002, x291003, x297000, x297001, x297002, x297003 => if x74 = true then (if x4 = 130 then (caulkerlaw10_KindArrays.j1 k x6 (!(x291000 == 0) || (!(x291001.toList == ([] : List UInt8)) || (!(x291002 == 0) || (!(x291003.toList == ([] : List UInt8)))))) x280000 x280001 x280002 x280003 x297000 x297001 x297002 x297003) else (caulkerlaw10_KindArrays.j1 k x6 true x280000 x280001 x280002 x280003 x297000 x297001 x297002 x297003)) else (if x280002 = 4 then (if x4 = 2 then (caulkerlaw10_KindArrays.j2 k x6 (!(x291000 == 0) || (!(x291001.toList == ([] : List UInt8)) || (!(x291002 == 0) || (!(x291003.toList == ([] : List UInt8)))))) x280000 x280001 x280002 x280003 x297000 x297001 x297002 x297003) else (caulkerlaw10_KindArrays.j2 k x6 true x280000 x280001 x280002 x280003 x297000 x297001 x297002 x297003)) else ((kind_Elem.f k x291000 x291001 x291002 x291003).bind fun bt303 => (if x4 = 0 then (if bt303.2.2.2.2 = 0 then (if (!(bt303.1 == x280000) || (!(bt303.2.1.toList == x280001.toList) || (!(bt303.2.2.1 == x280002) || (!(bt303.2.2.2.1.toList == x280003.toList))))) = true then (caulkerlaw10_KindArrays.j3 k x6 true x280000 x280001 x280002 x280003 x297000 x297001 x297002 x297003) else (if x280003.size + 1 ≤ 9223372036854775807 then (if x291003.toList = (x280003 ++ (⟨#[32]⟩ : ByteArray)).toList then ((kind_Outer.f k x291000 x291001 x291002 x291003).bind fun t309 => (caulkerlaw10_KindArrays.j3 k x6 (t309 != 32) x280000 x280001 x280002 x280003 x297000 x297001 x297002 x297003)) else (caulkerlaw10_KindArrays.j3 k x6 true x280000 x280001 x280002 x280003 x297000 x297001 x297002 x297003)) else (none))) else (caulkerlaw10_KindArrays.j3 k x6 true x280000 x280001 x280002 x280003 x297000 x297001 x297002 x297003)) else (caulkerlaw10_KindArrays.j3 k x6 true x280000 x280001 x280002 x280003 x297000 x297001 x297002 x297003))))
def caulkerlaw10_KindArrays.j1 : Nat → Int → Bool → Int → ByteArray → Int → ByteArray → Int → ByteArray → Int → ByteArray → Option (Bool)
 | 0, _, _, _, _, _, _, _, _, _, _ => none
 | k + 1, x6, x97, x280000, x280001, x280002, x280003, x297000, x297001, x297002, x297003 => if x97 = true then (none) else ((caulkerlaw10_plain.f k x280000 x280001 x280002 x280003).bind fun t299 => (if t299 = true then (if x280002 = 0 then (if x6 = 130 then (some (x297000 == 0 && (x297001.toList == ([] : List UInt8) && (x297002 == 0 && (x297003.toList == ([] : List UInt8)))))) else (none)) else (if 0 ≤ x280002 then (if x280002 ≤ (x280003.size : Int) then (if x6 = 0 then (some (x297000 == x280000 && (x297001.toList == x280001.toList && (x297002 == (wrap64 (x280002 - 1)) && (x297003.toList == ((x280003.extract 0 (x280002 : Int).toNat).toList)))))) else (none)) else (none)) else (none))) else (if x6 = 130 then (some (x297000 == 0 && (x297001.toList == ([] : List UInt8) && (x297002 == 0 && (x297003.toList == ([] : List UInt8)))))) else (none))))
def caulkerlaw10_KindArrays.j2 : Nat → Int → Bool → Int → ByteArray → Int → ByteArray → Int → ByteArray → Int → ByteArray → Option (Bool)
 | 0, _, _, _, _, _, _, _, _, _, _ => none
 | k + 1, x6, x108, x280000, x280001, x280002, x280003, x297000, x297001, x297002, x297003 => if x108 = true then (none) else ((caulkerlaw10_plain.f k x280000 x280001 x280002 x280003).bind fun t301 => (if t301 = true then (if x280002 = 0 then (if x6 = 130 then (some (x297000 == 0 && (x297001.toList == ([] : List UInt8) && (x297002 == 0 && (x297003.toList == ([] : List UInt8)))))) else (none)) else (if 0 ≤ x280002 then (if x280002 ≤ (x280003.size : Int) then (if x6 = 0 then (some (x297000 == x280000 && (x297001.toList == x280001.toList && (x297002 == (wrap64 (x280002 - 1)) && (x297003.toList == ((x280003.extract 0 (x280002 : Int).toNat).toList)))))) else (none)) else (none)) else (none))) else (if x6 = 130 then (some (x297000 == 0 && (x297001.toList == ([] : List UInt8) && (x297002 == 0 && (x297003.toList == ([] : List UInt8)))))) else (none))))
def caulkerlaw10_KindArrays.j3 : Nat → Int → Bool → Int → ByteArray → Int → ByteArray → Int → ByteArray → Int → ByteArray → Option (Bool)
 | 0, _, _, _, _, _, _, _, _, _, _ => none
 | k + 1, x6, x73, x280000, x280001, x280002, x280003, x297000, x297001, x297002, x297003 => if x73 = true then (none) else ((caulkerlaw10_plain.f k x280000 x280001 x280002 x280003).bind fun t310 => (if t310 = true then (if x280002 = 0 then (if x6 = 130 then (some (x297000 == 0 && (x297001.toList == ([] : List UInt8) && (x297002 == 0 && (x297003.toList == ([] : List UInt8)))))) else (none)) else (if 0 ≤ x280002 then (if x280002 ≤ (x280003.size : Int) then (if x6 = 0 then (some (x297000 == x280000 && (x297001.toList == x280001.toList && (x297002 == (wrap64 (x280002 - 1)) && (x297003.toList == ((x280003.extract 0 (x280002 : Int).toNat).toList)))))) else (none)) else (none)) else (none))) else (if x6 = 130 then (some (x297000 == 0 && (x297001.toList == ([] : List UInt8) && (x297002 == 0 && (x297003.toList == ([] : List UInt8)))))) else (none))))
end
def caulkerlaw10_KindArrays.f (k : Nat) (a0_0 : Int) (a0_1 : ByteArray) (a0_2 : Int) (a0_3 : ByteArray) : Option (Bool) := (caulkerlaw10_sorts.f k).bind fun t280 => (if t280 = true then ((caulkerlaw10_small.f k (([(⟨a0_0, a0_1, a0_2, a0_3⟩ : S23)] : List (S23)))).bind fun t284 => (if t284 = true then ((kind_Array.f k a0_0 a0_1 a0_2 a0_3).bind fun bt285 => ((kind_Elem.f k a0_0 a0_1 a0_2 a0_3).bind fun bt291 => ((caulkerlaw10_right.f k a0_0 a0_1 a0_2 a0_3).bind fun t297 => (if t297 = true then ((caulkerlaw10_plain.f k a0_0 a0_1 a0_2 a0_3).bind fun t298 => (if t298 = true then (if a0_0 = 6 then (caulkerlaw10_KindArrays.j0 k bt285.2.2.2.2 bt291.2.2.2.2 true a0_0 a0_1 a0_2 a0_3 bt285.1 bt285.2.1 bt285.2.2.1 bt285.2.2.2.1 bt291.1 bt291.2.1 bt291.2.2.1 bt291.2.2.2.1) else (if 0 ≤ a0_2 then (if a0_2 < (a0_3.size : Int) then (caulkerlaw10_KindArrays.j0 k bt285.2.2.2.2 bt291.2.2.2.2 ((bt a0_3 a0_2) == 111) a0_0 a0_1 a0_2 a0_3 bt285.1 bt285.2.1 bt285.2.2.1 bt285.2.2.2.1 bt291.1 bt291.2.1 bt291.2.2.1 bt291.2.2.2.1) else (none)) else (none))) else (caulkerlaw10_KindArrays.j0 k bt285.2.2.2.2 bt291.2.2.2.2 true a0_0 a0_1 a0_2 a0_3 bt285.1 bt285.2.1 bt285.2.2.1 bt285.2.2.2.1 bt291.1 bt291.2.1 bt291.2.2.1 bt291.2.2.2.1))) else (if bt285.2.2.2.2 = 130 then (if bt291.2.2.2.2 = 130 then (if (bt285.1 == 0 && (bt285.2.1.toList == ([] : List UInt8) && (bt285.2.2.1 == 0 && (bt285.2.2.2.1.toList == ([] : List UInt8))))) = true then (some (bt291.1 == 0 && (bt291.2.1.toList == ([] : List UInt8) && (bt291.2.2.1 == 0 && (bt291.2.2.2.1.toList == ([] : List UInt8)))))) else (none)) else (none)) else (none)))))) else (some true))) else (none))
theorem caulkerlaw10_KindArrays.mono_l : ∀ k, (∀ y0 y1 y2 y3 y4 y5 y6 y7 y8 y9 y10 y11 y12 y13 y14, LeO (caulkerlaw10_KindArrays.j0 k y0 y1 y2 y3 y4 y5 y6 y7 y8 y9 y10 y11 y12 y13 y14) (caulkerlaw10_KindArrays.j0 (k + 1) y0 y1 y2 y3 y4 y5 y6 y7 y8 y9 y10 y11 y12 y13 y14)) ∧ (∀ y0 y1 y2 y3 y4 y5 y6 y7 y8 y9, LeO (caulkerlaw10_KindArrays.j1 k y0 y1 y2 y3 y4 y5 y6 y7 y8 y9) (caulkerlaw10_KindArrays.j1 (k + 1) y0 y1 y2 y3 y4 y5 y6 y7 y8 y9)) ∧ (∀ y0 y1 y2 y3 y4 y5 y6 y7 y8 y9, LeO (caulkerlaw10_KindArrays.j2 k y0 y1 y2 y3 y4 y5 y6 y7 y8 y9) (caulkerlaw10_KindArrays.j2 (k + 1) y0 y1 y2 y3 y4 y5 y6 y7 y8 y9)) ∧ (∀ y0 y1 y2 y3 y4 y5 y6 y7 y8 y9, LeO (caulkerlaw10_KindArrays.j3 k y0 y1 y2 y3 y4 y5 y6 y7 y8 y9) (caulkerlaw10_KindArrays.j3 (k + 1) y0 y1 y2 y3 y4 y5 y6 y7 y8 y9))
 | 0 => ⟨fun _ _ _ _ _ _ _ _ _ _ _ _ _ _ _ r h => by simp [caulkerlaw10_KindArrays.j0] at h, fun _ _ _ _ _ _ _ _ _ _ r h => by simp [caulkerlaw10_KindArrays.j1] at h, fun _ _ _ _ _ _ _ _ _ _ r h => by simp [caulkerlaw10_KindArrays.j2] at h, fun _ _ _ _ _ _ _ _ _ _ r h => by simp [caulkerlaw10_KindArrays.j3] at h⟩
 | k + 1 => by
  obtain ⟨ih0, ih1, ih2, ih3⟩ := caulkerlaw10_KindArrays.mono_l k
  refine ⟨?_, ?_, ?_, ?_⟩
  ·intro y0 y1 y2 y3 y4 y5 y6 y7 y8 y9 y10 y11 y12 y13 y14
   unfold caulkerlaw10_KindArrays.j0
   repeat' first
   | (with_reducible exact ih0 _ _ _ _ _ _ _ _ _ _ _ _ _ _ _)
   | (with_reducible exact ih1 _ _ _ _ _ _ _ _ _ _)
   | (with_reducible exact ih2 _ _ _ _ _ _ _ _ _ _)
   | (with_reducible exact ih3 _ _ _ _ _ _ _ _ _ _)
   | (with_reducible exact caulkerlaw10_plain.mono _ _ _ _ _)
   | (with_reducible exact caulkerlaw10_right.mono _ _ _ _ _)
   | (with_reducible exact caulkerlaw10_small.mono _ _)
   | (with_reducible exact caulkerlaw10_sorts.mono _)
   | (with_reducible exact kind_Array.mono _ _ _ _ _)
   | (with_reducible exact kind_Elem.mono _ _ _ _ _)
   | (with_reducible exact kind_Outer.mono _ _ _ _ _)
   | (with_reducible exact LeO.refl _)
   | (with_reducible exact LeO.none _)
   | (with_reducible refine LeO.ite ?_ ?_)
   | (with_reducible refine LeO.bind ?_ (fun _ => ?_))
   | exact ih0 _ _ _ _ _ _ _ _ _ _ _ _ _ _ _
   | exact ih1 _ _ _ _ _ _ _ _ _ _
   | exact ih2 _ _ _ _ _ _ _ _ _ _
   | exact ih3 _ _ _ _ _ _ _ _ _ _
   | exact caulkerlaw10_plain.mono _ _ _ _ _
   | exact caulkerlaw10_right.mono _ _ _ _ _
   | exact caulkerlaw10_small.mono _ _
   | exact caulkerlaw10_sorts.mono _
   | exact kind_Array.mono _ _ _ _ _
   | exact kind_Elem.mono _ _ _ _ _
   | exact kind_Outer.mono _ _ _ _ _
   | exact LeO.none _
   | refine LeO.ite ?_ ?_
   | refine LeO.bind ?_ (fun _ => ?_)
  ·intro y0 y1 y2 y3 y4 y5 y6 y7 y8 y9
   unfold caulkerlaw10_KindArrays.j1
   repeat' first
   | (with_reducible exact ih0 _ _ _ _ _ _ _ _ _ _ _ _ _ _ _)
   | (with_reducible exact ih1 _ _ _ _ _ _ _ _ _ _)
   | (with_reducible exact ih2 _ _ _ _ _ _ _ _ _ _)
   | (with_reducible exact ih3 _ _ _ _ _ _ _ _ _ _)
   | (with_reducible exact caulkerlaw10_plain.mono _ _ _ _ _)
   | (with_reducible exact caulkerlaw10_right.mono _ _ _ _ _)
   | (with_reducible exact caulkerlaw10_small.mono _ _)
   | (with_reducible exact caulkerlaw10_sorts.mono _)
   | (with_reducible exact kind_Array.mono _ _ _ _ _)
   | (with_reducible exact kind_Elem.mono _ _ _ _ _)
   | (with_reducible exact kind_Outer.mono _ _ _ _ _)
   | (with_reducible exact LeO.refl _)
   | (with_reducible exact LeO.none _)
   | (with_reducible refine LeO.ite ?_ ?_)
   | (with_reducible refine LeO.bind ?_ (fun _ => ?_))
   | exact ih0 _ _ _ _ _ _ _ _ _ _ _ _ _ _ _
   | exact ih1 _ _ _ _ _ _ _ _ _ _
   | exact ih2 _ _ _ _ _ _ _ _ _ _
   | exact ih3 _ _ _ _ _ _ _ _ _ _
   | exact caulkerlaw10_plain.mono _ _ _ _ _
   | exact caulkerlaw10_right.mono _ _ _ _ _
   | exact caulkerlaw10_small.mono _ _
   | exact caulkerlaw10_sorts.mono _
   | exact kind_Array.mono _ _ _ _ _
   | exact kind_Elem.mono _ _ _ _ _
   | exact kind_Outer.mono _ _ _ _ _
   | exact LeO.none _
   | refine LeO.ite ?_ ?_
   | refine LeO.bind ?_ (fun _ => ?_)
  ·intro y0 y1 y2 y3 y4 y5 y6 y7 y8 y9
   unfold caulkerlaw10_KindArrays.j2
   repeat' first
   | (with_reducible exact ih0 _ _ _ _ _ _ _ _ _ _ _ _ _ _ _)
   | (with_reducible exact ih1 _ _ _ _ _ _ _ _ _ _)
   | (with_reducible exact ih2 _ _ _ _ _ _ _ _ _ _)
   | (with_reducible exact ih3 _ _ _ _ _ _ _ _ _ _)
   | (with_reducible exact caulkerlaw10_plain.mono _ _ _ _ _)
   | (with_reducible exact caulkerlaw10_right.mono _ _ _ _ _)
   | (with_reducible exact caulkerlaw10_small.mono _ _)
   | (with_reducible exact caulkerlaw10_sorts.mono _)
   | (with_reducible exact kind_Array.mono _ _ _ _ _)
   | (with_reducible exact kind_Elem.mono _ _ _ _ _)
   | (with_reducible exact kind_Outer.mono _ _ _ _ _)
   | (with_reducible exact LeO.refl _)
   | (with_reducible exact LeO.none _)
   | (with_reducible refine LeO.ite ?_ ?_)
   | (with_reducible refine LeO.bind ?_ (fun _ => ?_))
   | exact ih0 _ _ _ _ _ _ _ _ _ _ _ _ _ _ _
   | exact ih1 _ _ _ _ _ _ _ _ _ _
   | exact ih2 _ _ _ _ _ _ _ _ _ _
   | exact ih3 _ _ _ _ _ _ _ _ _ _
   | exact caulkerlaw10_plain.mono _ _ _ _ _
   | exact caulkerlaw10_right.mono _ _ _ _ _
   | exact caulkerlaw10_small.mono _ _
   | exact caulkerlaw10_sorts.mono _
   | exact kind_Array.mono _ _ _ _ _
   | exact kind_Elem.mono _ _ _ _ _
   | exact kind_Outer.mono _ _ _ _ _
   | exact LeO.none _
   | refine LeO.ite ?_ ?_
   | refine LeO.bind ?_ (fun _ => ?_)
  ·intro y0 y1 y2 y3 y4 y5 y6 y7 y8 y9
   unfold caulkerlaw10_KindArrays.j3
   repeat' first
   | (with_reducible exact ih0 _ _ _ _ _ _ _ _ _ _ _ _ _ _ _)
   | (with_reducible exact ih1 _ _ _ _ _ _ _ _ _ _)
   | (with_reducible exact ih2 _ _ _ _ _ _ _ _ _ _)
   | (with_reducible exact ih3 _ _ _ _ _ _ _ _ _ _)
   | (with_reducible exact caulkerlaw10_plain.mono _ _ _ _ _)
   | (with_reducible exact caulkerlaw10_right.mono _ _ _ _ _)
   | (with_reducible exact caulkerlaw10_small.mono _ _)
   | (with_reducible exact caulkerlaw10_sorts.mono _)
   | (with_reducible exact kind_Array.mono _ _ _ _ _)
   | (with_reducible exact kind_Elem.mono _ _ _ _ _)
   | (with_reducible exact kind_Outer.mono _ _ _ _ _)
   | (with_reducible exact LeO.refl _)
   | (with_reducible exact LeO.none _)
   | (with_reducible refine LeO.ite ?_ ?_)
   | (with_reducible refine LeO.bind ?_ (fun _ => ?_))
   | exact ih0 _ _ _ _ _ _ _ _ _ _ _ _ _ _ _
   | exact ih1 _ _ _ _ _ _ _ _ _ _
   | exact ih2 _ _ _ _ _ _ _ _ _ _
   | exact ih3 _ _ _ _ _ _ _ _ _ _
   | exact caulkerlaw10_plain.mono _ _ _ _ _
   | exact caulkerlaw10_right.mono _ _ _ _ _
   | exact caulkerlaw10_small.mono _ _
   | exact caulkerlaw10_sorts.mono _
   | exact kind_Array.mono _ _ _ _ _
   | exact kind_Elem.mono _ _ _ _ _
   | exact kind_Outer.mono _ _ _ _ _
   | exact LeO.none _
   | refine LeO.ite ?_ ?_
   | refine LeO.bind ?_ (fun _ => ?_)
theorem caulkerlaw10_KindArrays.mono : ∀ a0 a1 a2 a3 k, LeO (caulkerlaw10_KindArrays.f k a0 a1 a2 a3) (caulkerlaw10_KindArrays.f (k + 1) a0 a1 a2 a3) := by
 intro a0 a1 a2 a3 k
 obtain ⟨ih0, ih1, ih2, ih3⟩ := caulkerlaw10_KindArrays.mono_l k
 unfold caulkerlaw10_KindArrays.f
 repeat' first
   | (with_reducible exact ih0 _ _ _ _ _ _ _ _ _ _ _ _ _ _ _)
   | (with_reducible exact ih1 _ _ _ _ _ _ _ _ _ _)
   | (with_reducible exact ih2 _ _ _ _ _ _ _ _ _ _)
   | (with_reducible exact ih3 _ _ _ _ _ _ _ _ _ _)
   | (with_reducible exact caulkerlaw10_plain.mono _ _ _ _ _)
   | (with_reducible exact caulkerlaw10_right.mono _ _ _ _ _)
   | (with_reducible exact caulkerlaw10_small.mono _ _)
   | (with_reducible exact caulkerlaw10_sorts.mono _)
   | (with_reducible exact kind_Array.mono _ _ _ _ _)
   | (with_reducible exact kind_Elem.mono _ _ _ _ _)
   | (with_reducible exact kind_Outer.mono _ _ _ _ _)
   | (with_reducible exact LeO.refl _)
   | (with_reducible exact LeO.none _)
   | (with_reducible refine LeO.ite ?_ ?_)
   | (with_reducible refine LeO.bind ?_ (fun _ => ?_))
   | exact ih0 _ _ _ _ _ _ _ _ _ _ _ _ _ _ _
   | exact ih1 _ _ _ _ _ _ _ _ _ _
   | exact ih2 _ _ _ _ _ _ _ _ _ _
   | exact ih3 _ _ _ _ _ _ _ _ _ _
   | exact caulkerlaw10_plain.mono _ _ _ _ _
   | exact caulkerlaw10_right.mono _ _ _ _ _
   | exact caulkerlaw10_small.mono _ _
   | exact caulkerlaw10_sorts.mono _
   | exact kind_Array.mono _ _ _ _ _
   | exact kind_Elem.mono _ _ _ _ _
   | exact kind_Outer.mono _ _ _ _ _
   | exact LeO.none _
   | refine LeO.ite ?_ ?_
   | refine LeO.bind ?_ (fun _ => ?_)
theorem caulkerlaw10_KindArrays.told {c : Code} {Q : Exit → Act → World → Prop} {a : Act} {W : World} (P : World → Prop) (h : P W) (k : ∀ w2, P w2 → Code.wp Try.prog c Q a w2) : Code.wp Try.prog c Q a W := k W h
set_option maxHeartbeats 8000000 in
set_option maxRecDepth 100000 in
theorem caulkerlaw10_KindArrays.calls (k : Nat) (a0_0 : Int) (a0_1 : ByteArray) (a0_2 : Int) (a0_3 : ByteArray) (r : Bool) (w : World) (h : caulkerlaw10_KindArrays.f k a0_0 a0_1 a0_2 a0_3 = some r) :
  Calls Try.prog 5 #[.agg #[.int .i64 a0_0, .string a0_1, .int .i64 a0_2, .string a0_3]] w fun e w' => e = .returned (.bool r) ∧ Below w.heap.size w w' := by
 have hu23 := Try.underlying23
 have HB := Aside0.mk (Below.refl w.heap.size w)
 have H : ((caulkerlaw10_sorts.f k).bind fun t280 => (if t280 = true then ((caulkerlaw10_small.f k (([(⟨a0_0, a0_1, a0_2, a0_3⟩ : S23)] : List (S23)))).bind fun t284 => (if t284 = true then ((kind_Array.f k a0_0 a0_1 a0_2 a0_3).bind fun bt285 => ((kind_Elem.f k a0_0 a0_1 a0_2 a0_3).bind fun bt291 => ((caulkerlaw10_right.f k a0_0 a0_1 a0_2 a0_3).bind fun t297 => (if t297 = true then ((caulkerlaw10_plain.f k a0_0 a0_1 a0_2 a0_3).bind fun t298 => (if t298 = true then (if a0_0 = 6 then (caulkerlaw10_KindArrays.j0 k bt285.2.2.2.2 bt291.2.2.2.2 true a0_0 a0_1 a0_2 a0_3 bt285.1 bt285.2.1 bt285.2.2.1 bt285.2.2.2.1 bt291.1 bt291.2.1 bt291.2.2.1 bt291.2.2.2.1) else (if 0 ≤ a0_2 then (if a0_2 < (a0_3.size : Int) then (caulkerlaw10_KindArrays.j0 k bt285.2.2.2.2 bt291.2.2.2.2 ((bt a0_3 a0_2) == 111) a0_0 a0_1 a0_2 a0_3 bt285.1 bt285.2.1 bt285.2.2.1 bt285.2.2.2.1 bt291.1 bt291.2.1 bt291.2.2.1 bt291.2.2.2.1) else (none)) else (none))) else (caulkerlaw10_KindArrays.j0 k bt285.2.2.2.2 bt291.2.2.2.2 true a0_0 a0_1 a0_2 a0_3 bt285.1 bt285.2.1 bt285.2.2.1 bt285.2.2.2.1 bt291.1 bt291.2.1 bt291.2.2.1 bt291.2.2.2.1))) else (if bt285.2.2.2.2 = 130 then (if bt291.2.2.2.2 = 130 then (if (bt285.1 == 0 && (bt285.2.1.toList == ([] : List UInt8) && (bt285.2.2.1 == 0 && (bt285.2.2.2.1.toList == ([] : List UInt8))))) = true then (some (bt291.1 == 0 && (bt291.2.1.toList == ([] : List UInt8) && (bt291.2.2.1 == 0 && (bt291.2.2.2.1.toList == ([] : List UInt8)))))) else (none)) else (none)) else (none)))))) else (some true))) else (none))) = some r := h
 clear h
 replace H := Option.bind_eq_some_iff.mp H
 obtain ⟨t280, A20, H⟩ := H
 replace H : (if t280 = true then ((caulkerlaw10_small.f k (([(⟨a0_0, a0_1, a0_2, a0_3⟩ : S23)] : List (S23)))).bind fun t284 => (if t284 = true then ((kind_Array.f k a0_0 a0_1 a0_2 a0_3).bind fun bt285 => ((kind_Elem.f k a0_0 a0_1 a0_2 a0_3).bind fun bt291 => ((caulkerlaw10_right.f k a0_0 a0_1 a0_2 a0_3).bind fun t297 => (if t297 = true then ((caulkerlaw10_plain.f k a0_0 a0_1 a0_2 a0_3).bind fun t298 => (if t298 = true then (if a0_0 = 6 then (caulkerlaw10_KindArrays.j0 k bt285.2.2.2.2 bt291.2.2.2.2 true a0_0 a0_1 a0_2 a0_3 bt285.1 bt285.2.1 bt285.2.2.1 bt285.2.2.2.1 bt291.1 bt291.2.1 bt291.2.2.1 bt291.2.2.2.1) else (if 0 ≤ a0_2 then (if a0_2 < (a0_3.size : Int) then (caulkerlaw10_KindArrays.j0 k bt285.2.2.2.2 bt291.2.2.2.2 ((bt a0_3 a0_2) == 111) a0_0 a0_1 a0_2 a0_3 bt285.1 bt285.2.1 bt285.2.2.1 bt285.2.2.2.1 bt291.1 bt291.2.1 bt291.2.2.1 bt291.2.2.2.1) else (none)) else (none))) else (caulkerlaw10_KindArrays.j0 k bt285.2.2.2.2 bt291.2.2.2.2 true a0_0 a0_1 a0_2 a0_3 bt285.1 bt285.2.1 bt285.2.2.1 bt285.2.2.2.1 bt291.1 bt291.2.1 bt291.2.2.1 bt291.2.2.2.1))) else (if bt285.2.2.2.2 = 130 then (if bt291.2.2.2.2 = 130 then (if (bt285.1 == 0 && (bt285.2.1.toList == ([] : List UInt8) && (bt285.2.2.1 == 0 && (bt285.2.2.2.1.toList == ([] : List UInt8))))) = true then (some (bt291.1 == 0 && (bt291.2.1.toList == ([] : List UInt8) && (bt291.2.2.1 == 0 && (bt291.2.2.2.1.toList == ([] : List UInt8)))))) else (none)) else (none)) else (none)))))) else (some true))) else (none)) = some r := H
 have A2 := Aside0.mk A20
 clear A20
 by_cases c3 : t280 = true
 ·subst c3
  have H1 : ((caulkerlaw10_small.f k (([(⟨a0_0, a0_1, a0_2, a0_3⟩ : S23)] : List (S23)))).bind fun t284 => (if t284 = true then ((kind_Array.f k a0_0 a0_1 a0_2 a0_3).bind fun bt285 => ((kind_Elem.f k a0_0 a0_1 a0_2 a0_3).bind fun bt291 => ((caulkerlaw10_right.f k a0_0 a0_1 a0_2 a0_3).bind fun t297 => (if t297 = true then ((caulkerlaw10_plain.f k a0_0 a0_1 a0_2 a0_3).bind fun t298 => (if t298 = true then (if a0_0 = 6 then (caulkerlaw10_KindArrays.j0 k bt285.2.2.2.2 bt291.2.2.2.2 true a0_0 a0_1 a0_2 a0_3 bt285.1 bt285.2.1 bt285.2.2.1 bt285.2.2.2.1 bt291.1 bt291.2.1 bt291.2.2.1 bt291.2.2.2.1) else (if 0 ≤ a0_2 then (if a0_2 < (a0_3.size : Int) then (caulkerlaw10_KindArrays.j0 k bt285.2.2.2.2 bt291.2.2.2.2 ((bt a0_3 a0_2) == 111) a0_0 a0_1 a0_2 a0_3 bt285.1 bt285.2.1 bt285.2.2.1 bt285.2.2.2.1 bt291.1 bt291.2.1 bt291.2.2.1 bt291.2.2.2.1) else (none)) else (none))) else (caulkerlaw10_KindArrays.j0 k bt285.2.2.2.2 bt291.2.2.2.2 true a0_0 a0_1 a0_2 a0_3 bt285.1 bt285.2.1 bt285.2.2.1 bt285.2.2.2.1 bt291.1 bt291.2.1 bt291.2.2.1 bt291.2.2.2.1))) else (if bt285.2.2.2.2 = 130 then (if bt291.2.2.2.2 = 130 then (if (bt285.1 == 0 && (bt285.2.1.toList == ([] : List UInt8) && (bt285.2.2.1 == 0 && (bt285.2.2.2.1.toList == ([] : List UInt8))))) = true then (some (bt291.1 == 0 && (bt291.2.1.toList == ([] : List UInt8) && (bt291.2.2.1 == 0 && (bt291.2.2.2.1.toList == ([] : List UInt8)))))) else (none)) else (none)) else (none)))))) else (some true))) = some r := by rw [if_pos rfl] at H; exact H
  clear H
  have H := H1
  clear H1
  obtain ⟨y281, hy281⟩ : ∃ y_ : List (S23), y_ = (([(⟨a0_0, a0_1, a0_2, a0_3⟩ : S23)] : List (S23))) := ⟨_, rfl⟩
  replace H : ((caulkerlaw10_small.f k y281).bind fun t284 => (if t284 = true then ((kind_Array.f k a0_0 a0_1 a0_2 a0_3).bind fun bt285 => ((kind_Elem.f k a0_0 a0_1 a0_2 a0_3).bind fun bt291 => ((caulkerlaw10_right.f k a0_0 a0_1 a0_2 a0_3).bind fun t297 => (if t297 = true then ((caulkerlaw10_plain.f k a0_0 a0_1 a0_2 a0_3).bind fun t298 => (if t298 = true then (if a0_0 = 6 then (caulkerlaw10_KindArrays.j0 k bt285.2.2.2.2 bt291.2.2.2.2 true a0_0 a0_1 a0_2 a0_3 bt285.1 bt285.2.1 bt285.2.2.1 bt285.2.2.2.1 bt291.1 bt291.2.1 bt291.2.2.1 bt291.2.2.2.1) else (if 0 ≤ a0_2 then (if a0_2 < (a0_3.size : Int) then (caulkerlaw10_KindArrays.j0 k bt285.2.2.2.2 bt291.2.2.2.2 ((bt a0_3 a0_2) == 111) a0_0 a0_1 a0_2 a0_3 bt285.1 bt285.2.1 bt285.2.2.1 bt285.2.2.2.1 bt291.1 bt291.2.1 bt291.2.2.1 bt291.2.2.2.1) else (none)) else (none))) else (caulkerlaw10_KindArrays.j0 k bt285.2.2.2.2 bt291.2.2.2.2 true a0_0 a0_1 a0_2 a0_3 bt285.1 bt285.2.1 bt285.2.2.1 bt285.2.2.2.1 bt291.1 bt291.2.1 bt291.2.2.1 bt291.2.2.2.1))) else (if bt285.2.2.2.2 = 130 then (if bt291.2.2.2.2 = 130 then (if (bt285.1 == 0 && (bt285.2.1.toList == ([] : List UInt8) && (bt285.2.2.1 == 0 && (bt285.2.2.2.1.toList == ([] : List UInt8))))) = true then (some (bt291.1 == 0 && (bt291.2.1.toList == ([] : List UInt8) && (bt291.2.2.1 == 0 && (bt291.2.2.2.1.toList == ([] : List UInt8)))))) else (none)) else (none)) else (none)))))) else (some true))) = some r := by first | (rw [hy281]; with_reducible exact H) | (have H2_ := (Option.bind_some _ _).symm.trans H; rw [hy281]; with_reducible exact H2_) | (have H2_ := (Option.bind_some _ _).symm.trans H; with_reducible exact H2_) | with_reducible exact H | (rw [hy281]; exact H) | exact H
  have Ny281 := Aside0.mk hy281
  clear hy281
  replace H := Option.bind_eq_some_iff.mp H
  obtain ⟨t284, A40, H⟩ := H
  replace H : (if t284 = true then ((kind_Array.f k a0_0 a0_1 a0_2 a0_3).bind fun bt285 => ((kind_Elem.f k a0_0 a0_1 a0_2 a0_3).bind fun bt291 => ((caulkerlaw10_right.f k a0_0 a0_1 a0_2 a0_3).bind fun t297 => (if t297 = true then ((caulkerlaw10_plain.f k a0_0 a0_1 a0_2 a0_3).bind fun t298 => (if t298 = true then (if a0_0 = 6 then (caulkerlaw10_KindArrays.j0 k bt285.2.2.2.2 bt291.2.2.2.2 true a0_0 a0_1 a0_2 a0_3 bt285.1 bt285.2.1 bt285.2.2.1 bt285.2.2.2.1 bt291.1 bt291.2.1 bt291.2.2.1 bt291.2.2.2.1) else (if 0 ≤ a0_2 then (if a0_2 < (a0_3.size : Int) then (caulkerlaw10_KindArrays.j0 k bt285.2.2.2.2 bt291.2.2.2.2 ((bt a0_3 a0_2) == 111) a0_0 a0_1 a0_2 a0_3 bt285.1 bt285.2.1 bt285.2.2.1 bt285.2.2.2.1 bt291.1 bt291.2.1 bt291.2.2.1 bt291.2.2.2.1) else (none)) else (none))) else (caulkerlaw10_KindArrays.j0 k bt285.2.2.2.2 bt291.2.2.2.2 true a0_0 a0_1 a0_2 a0_3 bt285.1 bt285.2.1 bt285.2.2.1 bt285.2.2.2.1 bt291.1 bt291.2.1 bt291.2.2.1 bt291.2.2.2.1))) else (if bt285.2.2.2.2 = 130 then (if bt291.2.2.2.2 = 130 then (if (bt285.1 == 0 && (bt285.2.1.toList == ([] : List UInt8) && (bt285.2.2.1 == 0 && (bt285.2.2.2.1.toList == ([] : List UInt8))))) = true then (some (bt291.1 == 0 && (bt291.2.1.toList == ([] : List UInt8) && (bt291.2.2.1 == 0 && (bt291.2.2.2.1.toList == ([] : List UInt8)))))) else (none)) else (none)) else (none)))))) else (some true)) = some r := H
  have A4 := Aside0.mk A40
  clear A40
  by_cases c5 : t284 = true
  ·subst c5
   have H1 : ((kind_Array.f k a0_0 a0_1 a0_2 a0_3).bind fun bt285 => ((kind_Elem.f k a0_0 a0_1 a0_2 a0_3).bind fun bt291 => ((caulkerlaw10_right.f k a0_0 a0_1 a0_2 a0_3).bind fun t297 => (if t297 = true then ((caulkerlaw10_plain.f k a0_0 a0_1 a0_2 a0_3).bind fun t298 => (if t298 = true then (if a0_0 = 6 then (caulkerlaw10_KindArrays.j0 k bt285.2.2.2.2 bt291.2.2.2.2 true a0_0 a0_1 a0_2 a0_3 bt285.1 bt285.2.1 bt285.2.2.1 bt285.2.2.2.1 bt291.1 bt291.2.1 bt291.2.2.1 bt291.2.2.2.1) else (if 0 ≤ a0_2 then (if a0_2 < (a0_3.size : Int) then (caulkerlaw10_KindArrays.j0 k bt285.2.2.2.2 bt291.2.2.2.2 ((bt a0_3 a0_2) == 111) a0_0 a0_1 a0_2 a0_3 bt285.1 bt285.2.1 bt285.2.2.1 bt285.2.2.2.1 bt291.1 bt291.2.1 bt291.2.2.1 bt291.2.2.2.1) else (none)) else (none))) else (caulkerlaw10_KindArrays.j0 k bt285.2.2.2.2 bt291.2.2.2.2 true a0_0 a0_1 a0_2 a0_3 bt285.1 bt285.2.1 bt285.2.2.1 bt285.2.2.2.1 bt291.1 bt291.2.1 bt291.2.2.1 bt291.2.2.2.1))) else (if bt285.2.2.2.2 = 130 then (if bt291.2.2.2.2 = 130 then (if (bt285.1 == 0 && (bt285.2.1.toList == ([] : List UInt8) && (bt285.2.2.1 == 0 && (bt285.2.2.2.1.toList == ([] : List UInt8))))) = true then (some (bt291.1 == 0 && (bt291.2.1.toList == ([] : List UInt8) && (bt291.2.2.1 == 0 && (bt291.2.2.2.1.toList == ([] : List UInt8)))))) else (none)) else (none)) else (none)))))) = some r := by rw [if_pos rfl] at H; exact H
   clear H
   have H := H1
   clear H1
   replace H := Option.bind_eq_some_iff.mp H
   obtain ⟨⟨t285, t286, t287, t288, t289⟩, A60, H⟩ := H
   replace H : ((kind_Elem.f k a0_0 a0_1 a0_2 a0_3).bind fun bt291 => ((caulkerlaw10_right.f k a0_0 a0_1 a0_2 a0_3).bind fun t297 => (if t297 = true then ((caulkerlaw10_plain.f k a0_0 a0_1 a0_2 a0_3).bind fun t298 => (if t298 = true then (if a0_0 = 6 then (caulkerlaw10_KindArrays.j0 k t289 bt291.2.2.2.2 true a0_0 a0_1 a0_2 a0_3 t285 t286 t287 t288 bt291.1 bt291.2.1 bt291.2.2.1 bt291.2.2.2.1) else (if 0 ≤ a0_2 then (if a0_2 < (a0_3.size : Int) then (caulkerlaw10_KindArrays.j0 k t289 bt291.2.2.2.2 ((bt a0_3 a0_2) == 111) a0_0 a0_1 a0_2 a0_3 t285 t286 t287 t288 bt291.1 bt291.2.1 bt291.2.2.1 bt291.2.2.2.1) else (none)) else (none))) else (caulkerlaw10_KindArrays.j0 k t289 bt291.2.2.2.2 true a0_0 a0_1 a0_2 a0_3 t285 t286 t287 t288 bt291.1 bt291.2.1 bt291.2.2.1 bt291.2.2.2.1))) else (if t289 = 130 then (if bt291.2.2.2.2 = 130 then (if (t285 == 0 && (t286.toList == ([] : List UInt8) && (t287 == 0 && (t288.toList == ([] : List UInt8))))) = true then (some (bt291.1 == 0 && (bt291.2.1.toList == ([] : List UInt8) && (bt291.2.2.1 == 0 && (bt291.2.2.2.1.toList == ([] : List UInt8)))))) else (none)) else (none)) else (none))))) = some r := H
   have A6 := Aside0.mk A60
   clear A60
   replace H := Option.bind_eq_some_iff.mp H
   obtain ⟨⟨t291, t292, t293, t294, t295⟩, A70, H⟩ := H
   replace H : ((caulkerlaw10_right.f k a0_0 a0_1 a0_2 a0_3).bind fun t297 => (if t297 = true then ((caulkerlaw10_plain.f k a0_0 a0_1 a0_2 a0_3).bind fun t298 => (if t298 = true then (if a0_0 = 6 then (caulkerlaw10_KindArrays.j0 k t289 t295 true a0_0 a0_1 a0_2 a0_3 t285 t286 t287 t288 t291 t292 t293 t294) else (if 0 ≤ a0_2 then (if a0_2 < (a0_3.size : Int) then (caulkerlaw10_KindArrays.j0 k t289 t295 ((bt a0_3 a0_2) == 111) a0_0 a0_1 a0_2 a0_3 t285 t286 t287 t288 t291 t292 t293 t294) else (none)) else (none))) else (caulkerlaw10_KindArrays.j0 k t289 t295 true a0_0 a0_1 a0_2 a0_3 t285 t286 t287 t288 t291 t292 t293 t294))) else (if t289 = 130 then (if t295 = 130 then (if (t285 == 0 && (t286.toList == ([] : List UInt8) && (t287 == 0 && (t288.toList == ([] : List UInt8))))) = true then (some (t291 == 0 && (t292.toList == ([] : List UInt8) && (t293 == 0 && (t294.toList == ([] : List UInt8)))))) else (none)) else (none)) else (none)))) = some r := H
   have A7 := Aside0.mk A70
   clear A70
   replace H := Option.bind_eq_some_iff.mp H
   obtain ⟨t297, A80, H⟩ := H
   replace H : (if t297 = true then ((caulkerlaw10_plain.f k a0_0 a0_1 a0_2 a0_3).bind fun t298 => (if t298 = true then (if a0_0 = 6 then (caulkerlaw10_KindArrays.j0 k t289 t295 true a0_0 a0_1 a0_2 a0_3 t285 t286 t287 t288 t291 t292 t293 t294) else (if 0 ≤ a0_2 then (if a0_2 < (a0_3.size : Int) then (caulkerlaw10_KindArrays.j0 k t289 t295 ((bt a0_3 a0_2) == 111) a0_0 a0_1 a0_2 a0_3 t285 t286 t287 t288 t291 t292 t293 t294) else (none)) else (none))) else (caulkerlaw10_KindArrays.j0 k t289 t295 true a0_0 a0_1 a0_2 a0_3 t285 t286 t287 t288 t291 t292 t293 t294))) else (if t289 = 130 then (if t295 = 130 then (if (t285 == 0 && (t286.toList == ([] : List UInt8) && (t287 == 0 && (t288.toList == ([] : List UInt8))))) = true then (some (t291 == 0 && (t292.toList == ([] : List UInt8) && (t293 == 0 && (t294.toList == ([] : List UInt8)))))) else (none)) else (none)) else (none))) = some r := H
   have A8 := Aside0.mk A80
   clear A80
   by_cases c9 : t297 = true
   ·subst c9
    have H1 : ((caulkerlaw10_plain.f k a0_0 a0_1 a0_2 a0_3).bind fun t298 => (if t298 = true then (if a0_0 = 6 then (caulkerlaw10_KindArrays.j0 k t289 t295 true a0_0 a0_1 a0_2 a0_3 t285 t286 t287 t288 t291 t292 t293 t294) else (if 0 ≤ a0_2 then (if a0_2 < (a0_3.size : Int) then (caulkerlaw10_KindArrays.j0 k t289 t295 ((bt a0_3 a0_2) == 111) a0_0 a0_1 a0_2 a0_3 t285 t286 t287 t288 t291 t292 t293 t294) else (none)) else (none))) else (caulkerlaw10_KindArrays.j0 k t289 t295 true a0_0 a0_1 a0_2 a0_3 t285 t286 t287 t288 t291 t292 t293 t294))) = some r := by rw [if_pos rfl] at H; exact H
    clear H
    have H := H1
    clear H1
    have HC10 := Aside0.mk H
    clear H
    go_enter Try.func5, Try.ntmps5
    go_upto_region 12 with (first | ((with_reducible refine gate_dst (N := 1) rfl ?_); refine box_event ?hg (N := 1) ?hd (cs := #[.int .i64 a0_0, .string a0_1, .int .i64 a0_2, .string a0_3]) (t := 23) ?hr ?_; (case hd => rfl); (case hg => rfl); (case hr => first | (go_simp; done) | (go_simp; rfl)); intro gb279 hg w11 hbox hb; have BK279 := Aside0.mk (hbox); have GW279 := pxw HB hg; have GE279 := pxw HB hg; replace HB := pxs HB hb; clear hb hbox hg) | ((with_reducible refine gate_callee (f := 9) rfl ?_); refine goesL_ (some 10) rfl rfl Try.func9 (by kernel_rfl) rfl #[] rfl (by (try simp only [List.map_toArray, List.map_cons, List.map_nil]); first | done | rfl | (simp only [List.length_drop, List.length_take]; rfl)) ?_; (with_reducible refine (caulkerlaw10_sorts.calls k  true _ A2.out).mono ?_); rintro e w12 ⟨rfl, hb⟩; refine ⟨_, rfl, ?_⟩; replace BK279 := pxk BK279 hb; replace HB := pxs HB hb; (try clear hb); (try clear hb2); (try clear hk); (try clear hi); obtain ⟨hcz13_0, hcz13_1, hcz13_2, hcz13_3, hfz13_0, hfz13_1, hfz13_2, hfz13_3⟩ := pxf4 BK279) | ((with_reducible refine gate_dst (N := 13) rfl ?_); refine Kd.R_lit k23 _ 23 ?hg (N := 13) ?hd (xs := ([(⟨a0_0, a0_1, a0_2, a0_3⟩ : S23)] : List (S23))) (inner := [.int .i64 a0_0, .string a0_1, .int .i64 a0_2, .string a0_3]) (ok := fun _ => True) (okp := fun _ => True) ?hr ?hp (fun _ hk => hk) trivial (Below.refl _ _) (Nat.le_refl _) (by simp) ?_; (case hd => rfl); (case hg => rfl); (case hr => first | (go_simp; done) | (go_simp; rfl)); (case hp => exact (Reps.c4 (show Kd.M k23 _ _ _ (⟨a0_0, a0_1, a0_2, a0_3⟩ : S23) [.int .i64 a0_0, .string a0_1, .int .i64 a0_2, .string a0_3] from (k23_mkM _ _ _ (⟨a0_0, a0_1, a0_2, a0_3⟩ : S23) )) (Reps.none _ _))); intro v282 w14 ho15 hb hg_ hnew_; clear hg_ hnew_; (first | rw [← Ny281.out] at ho15 | (simp only [Int.reduceToNat] at ho15; rw [← Ny281.out] at ho15)); have HO283 := Aside0.mk (Kd.R_lower (Kd.R_newB ho15 (g := gb279) (o := .cells #[.int .i64 a0_0, .string a0_1, .int .i64 a0_2, .string a0_3] 23 (0, 0)) (pxq BK279)) (below_size (pxb HB))); replace BK279 := pxk BK279 hb; replace HB := pxs HB hb; clear hb ho15; obtain ⟨Ao16, co16, eo16⟩ := Kd.R_slice HO283.out; subst eo16) | ((with_reducible refine gate_callee (f := 10) rfl ?_); refine goesL_ (some 14) rfl rfl Try.func10 (by kernel_rfl) rfl #[.slice Ao16 y281.length co16] rfl (by (try simp only [List.map_toArray, List.map_cons, List.map_nil]); first | done | rfl | (simp only [List.length_drop, List.length_take]; rfl)) ?_; (with_reducible refine (caulkerlaw10_small.calls k _ _ y281 true _ ?side1 ?side2 A4.out).mono ?_); (case side1 => repeat (first | exact (Kd.R_reads' HO283.out).2.2 | (with_reducible refine Kd.C_alloc ?_ _) | (with_reducible refine Kd.C_drewN ?_ _) | (with_reducible refine Kd.C_drew ?_))); (case side2 => exact (Kd.R_reads' HO283.out).2.1); rintro e w17 ⟨rfl, hb⟩; refine ⟨_, rfl, ?_⟩; replace HO283 := Aside0.mk (Kd.R_below (pxr HO283) hb); replace BK279 := pxk BK279 hb; replace HB := pxs HB hb; (try clear hb); (try clear hb2); (try clear hk); (try clear hi); obtain ⟨hcz18_0, hcz18_1, hcz18_2, hcz18_3, hfz18_0, hfz18_1, hfz18_2, hfz18_3⟩ := pxf4 BK279) | ((with_reducible refine gate_callee (f := 19) rfl ?_); refine goesL_ (some 18) rfl rfl Try.func19 (by kernel_rfl) rfl #[.agg #[.int .i64 a0_0, .string a0_1, .int .i64 a0_2, .string a0_3]] rfl (by (try simp only [List.map_toArray, List.map_cons, List.map_nil]); first | done | rfl | (simp only [List.length_drop, List.length_take]; rfl)) ?_; (with_reducible refine (kind_Array.calls k a0_0 a0_1 a0_2 a0_3 t285 t286 t287 t288 t289 _ A6.out).mono ?_); rintro e w19 ⟨rfl, hb⟩; refine ⟨_, rfl, ?_⟩; replace HO283 := Aside0.mk (Kd.R_below (pxr HO283) hb); replace BK279 := pxk BK279 hb; replace HB := pxs HB hb; (try clear hb); (try clear hb2); (try clear hk); (try clear hi)) | ((with_reducible refine gate_dst (N := 3) rfl ?_); refine box_event ?hg (N := 3) ?hd (cs := #[.int .i64 0, .string (⟨#[]⟩ : ByteArray), .int .i64 0, .string (⟨#[]⟩ : ByteArray)]) (t := 23) ?hr ?_; (case hd => rfl); (case hg => rfl); (case hr => first | (go_simp; done) | (go_simp; rfl)); intro gb290 hg w20 hbox hb; have BK290 := Aside0.mk (hbox); have GW290 := pxw HB hg; have GE290 := pxw HB hg; have NB279_290 := pxn BK279 hg; have NB290_279 := Aside0.mk (pxn BK279 hg).out.symm; replace HO283 := Aside0.mk (Kd.R_below (Kd.R_elderB (pxr HO283) gb290 (Nat.le_of_eq hg.symm)) hb); replace BK279 := pxk BK279 hb; replace HB := pxs HB hb; clear hb hbox hg; have hnb21 := NB290_279.out; have hnc21 := NB279_290.out; obtain ⟨hcz22_0, hcz22_1, hcz22_2, hcz22_3, hfz22_0, hfz22_1, hfz22_2, hfz22_3⟩ := pxf4 BK290; obtain ⟨hcz23_0, hcz23_1, hcz23_2, hcz23_3, hfz23_0, hfz23_1, hfz23_2, hfz23_3⟩ := pxf4 BK279) | ((with_reducible refine gate_callee (f := 20) rfl ?_); refine goesL_ (some 23) rfl rfl Try.func20 (by kernel_rfl) rfl #[.agg #[.int .i64 a0_0, .string a0_1, .int .i64 a0_2, .string a0_3]] rfl (by (try simp only [List.map_toArray, List.map_cons, List.map_nil]); first | done | rfl | (simp only [List.length_drop, List.length_take]; rfl)) ?_; (with_reducible refine (kind_Elem.calls k a0_0 a0_1 a0_2 a0_3 t291 t292 t293 t294 t295 _ A7.out).mono ?_); rintro e w24 ⟨rfl, hb⟩; refine ⟨_, rfl, ?_⟩; replace HO283 := Aside0.mk (Kd.R_below (by (with_reducible repeat (first | apply Kd.R_alloc | apply Kd.R_drewN | apply Kd.R_drew)); exact (Kd.R_mono (Kd.R_far (p := ⟨gb290, 3, none⟩) (Kd.R_far (p := ⟨gb290, 2, none⟩) (Kd.R_far (p := ⟨gb290, 1, none⟩) (Kd.R_far (p := ⟨gb290, 0, none⟩) (Kd.R_mono HO283.out (fun k_ hk => (⟨hk, hk.2⟩ : _ ∧ k_ ≠ gb290))) (fun _ hk => hk.2) (.int .i64 t285)) (fun _ hk => hk.2) (.string t286)) (fun _ hk => hk.2) (.int .i64 t287)) (fun _ hk => hk.2) (.string t288)) (fun _ h_ => h_.1))) hb); replace BK279 := Aside0.mk (blk_below (g := gb279) (o := .cells #[.int .i64 a0_0, .string a0_1, .int .i64 a0_2, .string a0_3] 23 (0, 0)) (pxp BK279) hb); replace BK290 := Aside0.mk (blk_below (g := gb290) (o := .cells #[.int .i64 t285, .string t286, .int .i64 t287, .string t288] 23 (0, 0)) (pxp BK290) hb); replace HB := pxs HB hb; (try clear hb); (try clear hb2); (try clear hk); (try clear hi)) | ((with_reducible refine gate_dst (N := 5) rfl ?_); refine box_event ?hg (N := 5) ?hd (cs := #[.int .i64 0, .string (⟨#[]⟩ : ByteArray), .int .i64 0, .string (⟨#[]⟩ : ByteArray)]) (t := 23) ?hr ?_; (case hd => rfl); (case hg => rfl); (case hr => first | (go_simp; done) | (go_simp; rfl)); intro gb296 hg w25 hbox hb; have BK296 := Aside0.mk (hbox); have GW296 := pxw HB hg; have GE296 := pxw HB hg; have NB279_296 := pxn BK279 hg; have NB296_279 := Aside0.mk (pxn BK279 hg).out.symm; have NB290_296 := pxn BK290 hg; have NB296_290 := Aside0.mk (pxn BK290 hg).out.symm; replace HO283 := Aside0.mk (Kd.R_below (Kd.R_elderB (pxr HO283) gb296 (Nat.le_of_eq hg.symm)) hb); replace BK279 := pxk BK279 hb; replace BK290 := pxk BK290 hb; replace HB := pxs HB hb; clear hb hbox hg; have hnb26 := NB296_279.out; have hnc26 := NB279_296.out; have hnb27 := NB296_290.out; have hnc27 := NB290_296.out; obtain ⟨hcz28_0, hcz28_1, hcz28_2, hcz28_3, hfz28_0, hfz28_1, hfz28_2, hfz28_3⟩ := pxf4 BK296; obtain ⟨hcz29_0, hcz29_1, hcz29_2, hcz29_3, hfz29_0, hfz29_1, hfz29_2, hfz29_3⟩ := pxf4 BK279) | ((with_reducible refine gate_callee (f := 11) rfl ?_); refine goesL_ (some 27) rfl rfl Try.func11 (by kernel_rfl) rfl #[.agg #[.int .i64 a0_0, .string a0_1, .int .i64 a0_2, .string a0_3]] rfl (by (try simp only [List.map_toArray, List.map_cons, List.map_nil]); first | done | rfl | (simp only [List.length_drop, List.length_take]; rfl)) ?_; (with_reducible refine (caulkerlaw10_right.calls k a0_0 a0_1 a0_2 a0_3 true _ A8.out).mono ?_); rintro e w30 ⟨rfl, hb⟩; refine ⟨_, rfl, ?_⟩; replace HO283 := Aside0.mk (Kd.R_below (by (with_reducible repeat (first | apply Kd.R_alloc | apply Kd.R_drewN | apply Kd.R_drew)); exact (Kd.R_mono (Kd.R_far (p := ⟨gb296, 3, none⟩) (Kd.R_far (p := ⟨gb296, 2, none⟩) (Kd.R_far (p := ⟨gb296, 1, none⟩) (Kd.R_far (p := ⟨gb296, 0, none⟩) (Kd.R_mono HO283.out (fun k_ hk => (⟨hk, hk.2⟩ : _ ∧ k_ ≠ gb296))) (fun _ hk => hk.2) (.int .i64 t291)) (fun _ hk => hk.2) (.string t292)) (fun _ hk => hk.2) (.int .i64 t293)) (fun _ hk => hk.2) (.string t294)) (fun _ h_ => h_.1))) hb); replace BK279 := Aside0.mk (blk_below (g := gb279) (o := .cells #[.int .i64 a0_0, .string a0_1, .int .i64 a0_2, .string a0_3] 23 (0, 0)) (pxp BK279) hb); replace BK290 := Aside0.mk (blk_below (g := gb290) (o := .cells #[.int .i64 t285, .string t286, .int .i64 t287, .string t288] 23 (0, 0)) (pxp BK290) hb); replace BK296 := Aside0.mk (blk_below (g := gb296) (o := .cells #[.int .i64 t291, .string t292, .int .i64 t293, .string t294] 23 (0, 0)) (pxp BK296) hb); replace HB := pxs HB hb; (try clear hb); (try clear hb2); (try clear hk); (try clear hi)))
    (try simp only [Act.put, List.setIfInBounds_toArray, List.set_cons_zero, List.set_cons_succ])
    go_cut [74] (fun v74 wc => ∃ (kq : Nat) (x74_9 : Bool), v74 = .bool x74_9 ∧ Aside0 (caulkerlaw10_KindArrays.j0 kq t289 t295 x74_9 a0_0 a0_1 a0_2 a0_3 t285 t286 t287 t288 t291 t292 t293 t294 = some r) ∧ Aside0 (kq ≤ k) ∧ Aside0 (wc.heap[gb279]? = some (.cells #[.int .i64 a0_0, .string a0_1, .int .i64 a0_2, .string a0_3] 23 (0, 0))) ∧ Aside0 (wc.heap[gb290]? = some (.cells #[.int .i64 t285, .string t286, .int .i64 t287, .string t288] 23 (0, 0))) ∧ Aside0 (wc.heap[gb296]? = some (.cells #[.int .i64 t291, .string t292, .int .i64 t293, .string t294] 23 (0, 0))) ∧ Aside0 (Below w.heap.size w wc))
    case first =>
     have H := HC10.out
     clear HC10
     replace H := Option.bind_eq_some_iff.mp H
     obtain ⟨t298, A310, H⟩ := H
     replace H : (if t298 = true then (if a0_0 = 6 then (caulkerlaw10_KindArrays.j0 k t289 t295 true a0_0 a0_1 a0_2 a0_3 t285 t286 t287 t288 t291 t292 t293 t294) else (if 0 ≤ a0_2 then (if a0_2 < (a0_3.size : Int) then (caulkerlaw10_KindArrays.j0 k t289 t295 ((bt a0_3 a0_2) == 111) a0_0 a0_1 a0_2 a0_3 t285 t286 t287 t288 t291 t292 t293 t294) else (none)) else (none))) else (caulkerlaw10_KindArrays.j0 k t289 t295 true a0_0 a0_1 a0_2 a0_3 t285 t286 t287 t288 t291 t292 t293 t294)) = some r := H
     have A31 := Aside0.mk A310
     clear A310
     by_cases c32 : t298 = true
     ·subst c32
      have H1 : (if a0_0 = 6 then (caulkerlaw10_KindArrays.j0 k t289 t295 true a0_0 a0_1 a0_2 a0_3 t285 t286 t287 t288 t291 t292 t293 t294) else (if 0 ≤ a0_2 then (if a0_2 < (a0_3.size : Int) then (caulkerlaw10_KindArrays.j0 k t289 t295 ((bt a0_3 a0_2) == 111) a0_0 a0_1 a0_2 a0_3 t285 t286 t287 t288 t291 t292 t293 t294) else (none)) else (none))) = some r := by rw [if_pos rfl] at H; exact H
      clear H
      have H := H1
      clear H1
      by_cases c33 : a0_0 = 6
      ·rw [if_pos c33] at H
       have c33b0 : (a0_0 == 6) = true := beq_iff_eq.mpr c33
       have c33b1 : (a0_0 != 6) = false := bne_eq_false_iff_eq.mpr c33
       clear c33
       (first | rw [c33b0] | (simp only [i64_w, i32_w]; rw [c33b0]) | skip)
       have H' := Aside0.mk H
       clear H
       have hnb34 := NB279_290.out
       have hnc34 := NB290_279.out
       have hnb35 := NB279_296.out
       have hnc35 := NB296_279.out
       have hcz36_0 : w30.cell? ⟨gb279, 0, none⟩ = some (.int .i64 a0_0) := (blk_cell BK279.out 0).trans rfl
       have hcz36_1 : w30.cell? ⟨gb279, 1, none⟩ = some (.string a0_1) := (blk_cell BK279.out 1).trans rfl
       have hcz36_2 : w30.cell? ⟨gb279, 2, none⟩ = some (.int .i64 a0_2) := (blk_cell BK279.out 2).trans rfl
       have hcz36_3 : w30.cell? ⟨gb279, 3, none⟩ = some (.string a0_3) := (blk_cell BK279.out 3).trans rfl
       have hfz36_0 := blk_frozen BK279.out 0
       have hfz36_1 := blk_frozen BK279.out 1
       have hfz36_2 := blk_frozen BK279.out 2
       have hfz36_3 := blk_frozen BK279.out 3
       go_wp2_with (first | ((with_reducible refine gate_callee (f := 17) rfl ?_); refine goesL_ (some 76) rfl rfl Try.func17 (by kernel_rfl) rfl #[.agg #[.int .i64 a0_0, .string a0_1, .int .i64 a0_2, .string a0_3]] rfl (by (try simp only [List.map_toArray, List.map_cons, List.map_nil]); first | done | rfl | (simp only [List.length_drop, List.length_take]; rfl)) ?_; (with_reducible refine (caulkerlaw10_plain.calls k a0_0 a0_1 a0_2 a0_3 true _ A31.out).mono ?_); rintro e w37 ⟨rfl, hb⟩; refine ⟨_, rfl, ?_⟩; replace HO283 := Aside0.mk (Kd.R_below (pxr HO283) hb); replace BK279 := pxk BK279 hb; replace BK290 := pxk BK290 hb; replace BK296 := pxk BK296 hb; replace HB := pxs HB hb; (try clear hb); (try clear hb2); (try clear hk); (try clear hi); obtain ⟨hcz38_0, hcz38_1, hcz38_2, hcz38_3, hfz38_0, hfz38_1, hfz38_2, hfz38_3⟩ := pxf4 BK279))
       go_meet
       case rel => exact ⟨_, (true), (by first | rfl | (simp; done) | (simp [*]; done)), H', ⟨by first | omega | exact Nat.le_refl _⟩, ⟨pxq BK279⟩, ⟨pxq BK290⟩, ⟨pxq BK296⟩, ⟨pxb HB⟩⟩
      ·rw [if_neg c33] at H
       have c33b0 : (a0_0 == 6) = false := beq_eq_false_iff_ne.mpr c33
       have c33b1 : (a0_0 != 6) = true := bne_iff_ne.mpr c33
       (first | rw [c33b0] | (simp only [i64_w, i32_w]; rw [c33b0]) | skip)
       by_cases c39 : 0 ≤ a0_2
       ·rw [if_pos c39] at H
        have c39b0 : decide (0 ≤ a0_2) = true := decide_eq_true c39
        clear c39
        by_cases c40 : a0_2 < (a0_3.size : Int)
        ·rw [if_pos c40] at H
         have c40b0 : decide (a0_2 < (a0_3.size : Int)) = true := decide_eq_true c40
         clear c40
         have H' := Aside0.mk H
         clear H
         have hnb42 := NB279_290.out
         have hnc42 := NB290_279.out
         have hnb43 := NB279_296.out
         have hnc43 := NB296_279.out
         have hcz44_0 : w30.cell? ⟨gb279, 0, none⟩ = some (.int .i64 a0_0) := (blk_cell BK279.out 0).trans rfl
         have hcz44_1 : w30.cell? ⟨gb279, 1, none⟩ = some (.string a0_1) := (blk_cell BK279.out 1).trans rfl
         have hcz44_2 : w30.cell? ⟨gb279, 2, none⟩ = some (.int .i64 a0_2) := (blk_cell BK279.out 2).trans rfl
         have hcz44_3 : w30.cell? ⟨gb279, 3, none⟩ = some (.string a0_3) := (blk_cell BK279.out 3).trans rfl
         have hfz44_0 := blk_frozen BK279.out 0
         have hfz44_1 := blk_frozen BK279.out 1
         have hfz44_2 := blk_frozen BK279.out 2
         have hfz44_3 := blk_frozen BK279.out 3
         go_wp2_with (first | ((with_reducible refine gate_callee (f := 17) rfl ?_); refine goesL_ (some 76) rfl rfl Try.func17 (by kernel_rfl) rfl #[.agg #[.int .i64 a0_0, .string a0_1, .int .i64 a0_2, .string a0_3]] rfl (by (try simp only [List.map_toArray, List.map_cons, List.map_nil]); first | done | rfl | (simp only [List.length_drop, List.length_take]; rfl)) ?_; (with_reducible refine (caulkerlaw10_plain.calls k a0_0 a0_1 a0_2 a0_3 true _ A31.out).mono ?_); rintro e w45 ⟨rfl, hb⟩; refine ⟨_, rfl, ?_⟩; replace HO283 := Aside0.mk (Kd.R_below (pxr HO283) hb); replace BK279 := pxk BK279 hb; replace BK290 := pxk BK290 hb; replace BK296 := pxk BK296 hb; replace HB := pxs HB hb; (try clear hb); (try clear hb2); (try clear hk); (try clear hi); obtain ⟨hcz46_0, hcz46_1, hcz46_2, hcz46_3, hfz46_0, hfz46_1, hfz46_2, hfz46_3⟩ := pxf4 BK279; have p41 : 0 ≤ (a0_2 : Int) := pxd; have q41 : a0_2 < (a0_3.size : Int) := pxd; have hx41 := bt_at a0_3 a0_2; replace p41 := eq_true p41; replace q41 := eq_true q41))
         go_meet
         case rel => exact ⟨_, (((bt a0_3 a0_2) == 111)), (by first | rfl | (simp; done) | (simp [*]; done)), H', ⟨by first | omega | exact Nat.le_refl _⟩, ⟨pxq BK279⟩, ⟨pxq BK290⟩, ⟨pxq BK296⟩, ⟨pxb HB⟩⟩
        ·rw [if_neg c40] at H
         exact absurd H (by simp)
       ·rw [if_neg c39] at H
        exact absurd H (by simp)
     ·replace c32 := Bool.eq_false_iff.mpr c32
      subst c32
      have H1 : (caulkerlaw10_KindArrays.j0 k t289 t295 true a0_0 a0_1 a0_2 a0_3 t285 t286 t287 t288 t291 t292 t293 t294) = some r := by rw [if_neg (show ¬ (false = true) by decide)] at H; exact H
      clear H
      have H := H1
      clear H1
      have H' := Aside0.mk H
      clear H
      have hnb47 := NB279_290.out
      have hnc47 := NB290_279.out
      have hnb48 := NB279_296.out
      have hnc48 := NB296_279.out
      have hcz49_0 : w30.cell? ⟨gb279, 0, none⟩ = some (.int .i64 a0_0) := (blk_cell BK279.out 0).trans rfl
      have hcz49_1 : w30.cell? ⟨gb279, 1, none⟩ = some (.string a0_1) := (blk_cell BK279.out 1).trans rfl
      have hcz49_2 : w30.cell? ⟨gb279, 2, none⟩ = some (.int .i64 a0_2) := (blk_cell BK279.out 2).trans rfl
      have hcz49_3 : w30.cell? ⟨gb279, 3, none⟩ = some (.string a0_3) := (blk_cell BK279.out 3).trans rfl
      have hfz49_0 := blk_frozen BK279.out 0
      have hfz49_1 := blk_frozen BK279.out 1
      have hfz49_2 := blk_frozen BK279.out 2
      have hfz49_3 := blk_frozen BK279.out 3
      go_wp2_with (first | ((with_reducible refine gate_callee (f := 17) rfl ?_); refine goesL_ (some 76) rfl rfl Try.func17 (by kernel_rfl) rfl #[.agg #[.int .i64 a0_0, .string a0_1, .int .i64 a0_2, .string a0_3]] rfl (by (try simp only [List.map_toArray, List.map_cons, List.map_nil]); first | done | rfl | (simp only [List.length_drop, List.length_take]; rfl)) ?_; (with_reducible refine (caulkerlaw10_plain.calls k a0_0 a0_1 a0_2 a0_3 false _ A31.out).mono ?_); rintro e w50 ⟨rfl, hb⟩; refine ⟨_, rfl, ?_⟩; replace HO283 := Aside0.mk (Kd.R_below (pxr HO283) hb); replace BK279 := pxk BK279 hb; replace BK290 := pxk BK290 hb; replace BK296 := pxk BK296 hb; replace HB := pxs HB hb; (try clear hb); (try clear hb2); (try clear hk); (try clear hi)))
      go_meet
      case rel => exact ⟨_, (true), (by first | rfl | (simp; done) | (simp [*]; done)), H', ⟨by first | omega | exact Nat.le_refl _⟩, ⟨pxq BK279⟩, ⟨pxq BK290⟩, ⟨pxq BK296⟩, ⟨pxb HB⟩⟩
    case rest => as_aux_lemma =>
     clear HC10
     (try clear c1); (try clear c2); (try clear p2); (try clear c3); (try clear c4); (try clear p4); (try clear q4); (try clear hx4); (try clear c5); (try clear c9); (try clear c10); (try clear c11); (try clear c17); (try clear c19); (try clear c20); (try clear c21); (try clear c26); (try clear c27); (try clear c32); (try clear c33); (try clear c33b0); (try clear c33b1); (try clear c34); (try clear c35); (try clear c39); (try clear c39b0); (try clear c40); (try clear c40b0); (try clear p41); (try clear q41); (try clear hx41); (try clear c42); (try clear c43); (try clear c47); (try clear c48); (try clear hcz13_0 hcz13_1 hcz13_2 hcz13_3 hfz13_0 hfz13_1 hfz13_2 hfz13_3); (try clear hcz18_0 hcz18_1 hcz18_2 hcz18_3 hfz18_0 hfz18_1 hfz18_2 hfz18_3); (try clear hcz22_0 hcz22_1 hcz22_2 hcz22_3 hfz22_0 hfz22_1 hfz22_2 hfz22_3); (try clear hcz23_0 hcz23_1 hcz23_2 hcz23_3 hfz23_0 hfz23_1 hfz23_2 hfz23_3); (try clear hcz28_0 hcz28_1 hcz28_2 hcz28_3 hfz28_0 hfz28_1 hfz28_2 hfz28_3); (try clear hcz29_0 hcz29_1 hcz29_2 hcz29_3 hfz29_0 hfz29_1 hfz29_2 hfz29_3); (try clear hcz36_0 hcz36_1 hcz36_2 hcz36_3 hfz36_0 hfz36_1 hfz36_2 hfz36_3); (try clear hcz38_0 hcz38_1 hcz38_2 hcz38_3 hfz38_0 hfz38_1 hfz38_2 hfz38_3); (try clear hcz44_0 hcz44_1 hcz44_2 hcz44_3 hfz44_0 hfz44_1 hfz44_2 hfz44_3); (try clear hcz46_0 hcz46_1 hcz46_2 hcz46_3 hfz46_0 hfz46_1 hfz46_2 hfz46_3); (try clear hcz49_0 hcz49_1 hcz49_2 hcz49_3 hfz49_0 hfz49_1 hfz49_2 hfz49_3)
     obtain ⟨kq, x74_9, rfl, HA, HJ9, BK279, BK290, BK296, HB⟩ := hcut
     cases kq with
     | zero => exact absurd HA.out (by simp [caulkerlaw10_KindArrays.j0])
     | succ kj9 =>
      have H := HA.out
      clear HA
      simp only [caulkerlaw10_KindArrays.j0] at H
      by_cases c51 : x74_9 = true
      ·subst c51
       have H1 : (if t289 = 130 then (caulkerlaw10_KindArrays.j1 kj9 t295 (!(t285 == 0) || (!(t286.toList == ([] : List UInt8)) || (!(t287 == 0) || (!(t288.toList == ([] : List UInt8)))))) a0_0 a0_1 a0_2 a0_3 t291 t292 t293 t294) else (caulkerlaw10_KindArrays.j1 kj9 t295 true a0_0 a0_1 a0_2 a0_3 t291 t292 t293 t294)) = some r := by rw [if_pos rfl] at H; exact H
       clear H
       have H := H1
       clear H1
       have HC52 := Aside0.mk H
       clear H
       go_upto_region 13 with (fail)
       go_cut [97] (fun v97 wc => ∃ (kq : Nat) (x97_51 : Bool), v97 = .bool x97_51 ∧ Aside0 (caulkerlaw10_KindArrays.j1 kq t295 x97_51 a0_0 a0_1 a0_2 a0_3 t291 t292 t293 t294 = some r) ∧ Aside0 (kq ≤ kj9) ∧ Aside0 (wc.heap[gb279]? = some (.cells #[.int .i64 a0_0, .string a0_1, .int .i64 a0_2, .string a0_3] 23 (0, 0))) ∧ Aside0 (wc.heap[gb290]? = some (.cells #[.int .i64 t285, .string t286, .int .i64 t287, .string t288] 23 (0, 0))) ∧ Aside0 (wc.heap[gb296]? = some (.cells #[.int .i64 t291, .string t292, .int .i64 t293, .string t294] 23 (0, 0))) ∧ Aside0 (Below w.heap.size w wc))
       case first =>
        have H := HC52.out
        clear HC52
        by_cases c53 : t289 = 130
        ·rw [if_pos c53] at H
         have c53b0 : (t289 == 130) = true := beq_iff_eq.mpr c53
         have c53b1 : (t289 != 130) = false := bne_eq_false_iff_eq.mpr c53
         clear c53
         (first | rw [c53b0] | (simp only [i64_w, i32_w]; rw [c53b0]) | skip)
         have H' := Aside0.mk H
         clear H
         have hnb54 := NB290_279.out
         have hnc54 := NB279_290.out
         have hnb55 := NB290_296.out
         have hnc55 := NB296_290.out
         have hcz56_0 : wc.cell? ⟨gb290, 0, none⟩ = some (.int .i64 t285) := (blk_cell BK290.out 0).trans rfl
         have hcz56_1 : wc.cell? ⟨gb290, 1, none⟩ = some (.string t286) := (blk_cell BK290.out 1).trans rfl
         have hcz56_2 : wc.cell? ⟨gb290, 2, none⟩ = some (.int .i64 t287) := (blk_cell BK290.out 2).trans rfl
         have hcz56_3 : wc.cell? ⟨gb290, 3, none⟩ = some (.string t288) := (blk_cell BK290.out 3).trans rfl
         have hfz56_0 := blk_frozen BK290.out 0
         have hfz56_1 := blk_frozen BK290.out 1
         have hfz56_2 := blk_frozen BK290.out 2
         have hfz56_3 := blk_frozen BK290.out 3
         go_wp2
         go_meet
         case rel => exact ⟨_, ((!(t285 == 0) || (!(t286.toList == ([] : List UInt8)) || (!(t287 == 0) || (!(t288.toList == ([] : List UInt8))))))), (by first | rfl | (simp; done) | (simp [*]; done)), H', ⟨by have := HJ9.out; first | omega | exact Nat.le_refl _⟩, ⟨pxq BK279⟩, ⟨pxq BK290⟩, ⟨pxq BK296⟩, ⟨pxb HB⟩⟩
        ·rw [if_neg c53] at H
         have c53b0 : (t289 == 130) = false := beq_eq_false_iff_ne.mpr c53
         have c53b1 : (t289 != 130) = true := bne_iff_ne.mpr c53
         (first | rw [c53b0] | (simp only [i64_w, i32_w]; rw [c53b0]) | skip)
         have H' := Aside0.mk H
         clear H
         go_wp2
         go_meet
         case rel => exact ⟨_, (true), (by first | rfl | (simp; done) | (simp [*]; done)), H', ⟨by have := HJ9.out; first | omega | exact Nat.le_refl _⟩, ⟨pxq BK279⟩, ⟨pxq BK290⟩, ⟨pxq BK296⟩, ⟨pxb HB⟩⟩
       case rest => as_aux_lemma =>
        clear HC52
        (try clear c1); (try clear c2); (try clear p2); (try clear c3); (try clear c4); (try clear p4); (try clear q4); (try clear hx4); (try clear c5); (try clear c9); (try clear c10); (try clear c11); (try clear c17); (try clear c19); (try clear c20); (try clear c21); (try clear c26); (try clear c27); (try clear c32); (try clear c33); (try clear c33b0); (try clear c33b1); (try clear c34); (try clear c35); (try clear c39); (try clear c39b0); (try clear c40); (try clear c40b0); (try clear p41); (try clear q41); (try clear hx41); (try clear c42); (try clear c43); (try clear c47); (try clear c48); (try clear c51); (try clear c53); (try clear c53b0); (try clear c53b1); (try clear c54); (try clear c55); (try clear hcz13_0 hcz13_1 hcz13_2 hcz13_3 hfz13_0 hfz13_1 hfz13_2 hfz13_3); (try clear hcz18_0 hcz18_1 hcz18_2 hcz18_3 hfz18_0 hfz18_1 hfz18_2 hfz18_3); (try clear hcz22_0 hcz22_1 hcz22_2 hcz22_3 hfz22_0 hfz22_1 hfz22_2 hfz22_3); (try clear hcz23_0 hcz23_1 hcz23_2 hcz23_3 hfz23_0 hfz23_1 hfz23_2 hfz23_3); (try clear hcz28_0 hcz28_1 hcz28_2 hcz28_3 hfz28_0 hfz28_1 hfz28_2 hfz28_3); (try clear hcz29_0 hcz29_1 hcz29_2 hcz29_3 hfz29_0 hfz29_1 hfz29_2 hfz29_3); (try clear hcz36_0 hcz36_1 hcz36_2 hcz36_3 hfz36_0 hfz36_1 hfz36_2 hfz36_3); (try clear hcz38_0 hcz38_1 hcz38_2 hcz38_3 hfz38_0 hfz38_1 hfz38_2 hfz38_3); (try clear hcz44_0 hcz44_1 hcz44_2 hcz44_3 hfz44_0 hfz44_1 hfz44_2 hfz44_3); (try clear hcz46_0 hcz46_1 hcz46_2 hcz46_3 hfz46_0 hfz46_1 hfz46_2 hfz46_3); (try clear hcz49_0 hcz49_1 hcz49_2 hcz49_3 hfz49_0 hfz49_1 hfz49_2 hfz49_3); (try clear hcz56_0 hcz56_1 hcz56_2 hcz56_3 hfz56_0 hfz56_1 hfz56_2 hfz56_3)
        obtain ⟨kq, x97_51, rfl, HA, HJ51, BK279, BK290, BK296, HB⟩ := hcut
        cases kq with
        | zero => exact absurd HA.out (by simp [caulkerlaw10_KindArrays.j1])
        | succ kj51 =>
         have H := HA.out
         clear HA
         simp only [caulkerlaw10_KindArrays.j1] at H
         by_cases c57 : x97_51 = true
         ·subst c57
          have H1 : (none) = some r := by rw [if_pos rfl] at H; exact H
          clear H
          have H := H1
          clear H1
          exact absurd H (by simp)
         ·replace c57 := Bool.eq_false_iff.mpr c57
          subst c57
          have H1 : ((caulkerlaw10_plain.f kj51 a0_0 a0_1 a0_2 a0_3).bind fun t299 => (if t299 = true then (if a0_2 = 0 then (if t295 = 130 then (some (t291 == 0 && (t292.toList == ([] : List UInt8) && (t293 == 0 && (t294.toList == ([] : List UInt8)))))) else (none)) else (if 0 ≤ a0_2 then (if a0_2 ≤ (a0_3.size : Int) then (if t295 = 0 then (some (t291 == a0_0 && (t292.toList == a0_1.toList && (t293 == (wrap64 (a0_2 - 1)) && (t294.toList == ((a0_3.extract 0 (a0_2 : Int).toNat).toList)))))) else (none)) else (none)) else (none))) else (if t295 = 130 then (some (t291 == 0 && (t292.toList == ([] : List UInt8) && (t293 == 0 && (t294.toList == ([] : List UInt8)))))) else (none)))) = some r := by rw [if_neg (show ¬ (false = true) by decide)] at H; exact H
          clear H
          have H := H1
          clear H1
          replace H := Option.bind_eq_some_iff.mp H
          obtain ⟨t299, A580, H⟩ := H
          replace H : (if t299 = true then (if a0_2 = 0 then (if t295 = 130 then (some (t291 == 0 && (t292.toList == ([] : List UInt8) && (t293 == 0 && (t294.toList == ([] : List UInt8)))))) else (none)) else (if 0 ≤ a0_2 then (if a0_2 ≤ (a0_3.size : Int) then (if t295 = 0 then (some (t291 == a0_0 && (t292.toList == a0_1.toList && (t293 == (wrap64 (a0_2 - 1)) && (t294.toList == ((a0_3.extract 0 (a0_2 : Int).toNat).toList)))))) else (none)) else (none)) else (none))) else (if t295 = 130 then (some (t291 == 0 && (t292.toList == ([] : List UInt8) && (t293 == 0 && (t294.toList == ([] : List UInt8)))))) else (none))) = some r := H
          have A58 := Aside0.mk A580
          clear A580
          by_cases c59 : t299 = true
          ·subst c59
           have H1 : (if a0_2 = 0 then (if t295 = 130 then (some (t291 == 0 && (t292.toList == ([] : List UInt8) && (t293 == 0 && (t294.toList == ([] : List UInt8)))))) else (none)) else (if 0 ≤ a0_2 then (if a0_2 ≤ (a0_3.size : Int) then (if t295 = 0 then (some (t291 == a0_0 && (t292.toList == a0_1.toList && (t293 == (wrap64 (a0_2 - 1)) && (t294.toList == ((a0_3.extract 0 (a0_2 : Int).toNat).toList)))))) else (none)) else (none)) else (none))) = some r := by rw [if_pos rfl] at H; exact H
           clear H
           have H := H1
           clear H1
           by_cases c60 : a0_2 = 0
           ·rw [if_pos c60] at H
            have c60b0 : (a0_2 == 0) = true := beq_iff_eq.mpr c60
            have c60b1 : (a0_2 != 0) = false := bne_eq_false_iff_eq.mpr c60
            clear c60
            by_cases c61 : t295 = 130
            ·rw [if_pos c61] at H
             have c61b0 : (t295 == 130) = true := beq_iff_eq.mpr c61
             have c61b1 : (t295 != 130) = false := bne_eq_false_iff_eq.mpr c61
             clear c61
             obtain rfl := Option.some.inj H
             have hnb62 := NB279_290.out
             have hnc62 := NB290_279.out
             have hnb63 := NB279_296.out
             have hnc63 := NB296_279.out
             have hcz64_0 : wc.cell? ⟨gb279, 0, none⟩ = some (.int .i64 a0_0) := (blk_cell BK279.out 0).trans rfl
             have hcz64_1 : wc.cell? ⟨gb279, 1, none⟩ = some (.string a0_1) := (blk_cell BK279.out 1).trans rfl
             have hcz64_2 : wc.cell? ⟨gb279, 2, none⟩ = some (.int .i64 a0_2) := (blk_cell BK279.out 2).trans rfl
             have hcz64_3 : wc.cell? ⟨gb279, 3, none⟩ = some (.string a0_3) := (blk_cell BK279.out 3).trans rfl
             have hfz64_0 := blk_frozen BK279.out 0
             have hfz64_1 := blk_frozen BK279.out 1
             have hfz64_2 := blk_frozen BK279.out 2
             have hfz64_3 := blk_frozen BK279.out 3
             go_wp2_with (first | ((with_reducible refine gate_callee (f := 17) rfl ?_); refine goesL_ (some 110) rfl rfl Try.func17 (by kernel_rfl) rfl #[.agg #[.int .i64 a0_0, .string a0_1, .int .i64 a0_2, .string a0_3]] rfl (by (try simp only [List.map_toArray, List.map_cons, List.map_nil]); first | done | rfl | (simp only [List.length_drop, List.length_take]; rfl)) ?_; (with_reducible refine (caulkerlaw10_plain.calls kj51 a0_0 a0_1 a0_2 a0_3 true _ A58.out).mono ?_); rintro e w65 ⟨rfl, hb⟩; refine ⟨_, rfl, ?_⟩; replace BK279 := pxk BK279 hb; replace BK290 := pxk BK290 hb; replace BK296 := pxk BK296 hb; replace HB := pxs HB hb; (try clear hb); (try clear hb2); (try clear hk); (try clear hi); obtain ⟨hcz66_0, hcz66_1, hcz66_2, hcz66_3, hfz66_0, hfz66_1, hfz66_2, hfz66_3⟩ := pxf4 BK279; have hnb67 := NB296_290.out; have hnc67 := NB290_296.out; obtain ⟨hcz68_0, hcz68_1, hcz68_2, hcz68_3, hfz68_0, hfz68_1, hfz68_2, hfz68_3⟩ := pxf4 BK296))
             go_ret
             exact ⟨by first | rfl | (simp [errW_none, errW_some] <;> rfl) | (simp [*, errW_none, errW_some] <;> rfl) | (simp [*, pxbeq, pxbne, errW_none, errW_some]; done), pxb HB⟩
            ·rw [if_neg c61] at H
             exact absurd H (by simp)
           ·rw [if_neg c60] at H
            have c60b0 : (a0_2 == 0) = false := beq_eq_false_iff_ne.mpr c60
            have c60b1 : (a0_2 != 0) = true := bne_iff_ne.mpr c60
            by_cases c69 : 0 ≤ a0_2
            ·rw [if_pos c69] at H
             have c69b0 := eq_true c69
             have c69b1 : decide (0 ≤ a0_2) = true := decide_eq_true c69
             clear c69
             by_cases c70 : a0_2 ≤ (a0_3.size : Int)
             ·rw [if_pos c70] at H
              have c70b0 := eq_true c70
              have c70b1 : decide (a0_2 ≤ (a0_3.size : Int)) = true := decide_eq_true c70
              clear c70
              by_cases c71 : t295 = 0
              ·rw [if_pos c71] at H
               have c71b0 : (t295 == 0) = true := beq_iff_eq.mpr c71
               have c71b1 : (t295 != 0) = false := bne_eq_false_iff_eq.mpr c71
               clear c71
               obtain rfl := Option.some.inj H
               have hnb72 := NB279_290.out
               have hnc72 := NB290_279.out
               have hnb73 := NB279_296.out
               have hnc73 := NB296_279.out
               have hcz74_0 : wc.cell? ⟨gb279, 0, none⟩ = some (.int .i64 a0_0) := (blk_cell BK279.out 0).trans rfl
               have hcz74_1 : wc.cell? ⟨gb279, 1, none⟩ = some (.string a0_1) := (blk_cell BK279.out 1).trans rfl
               have hcz74_2 : wc.cell? ⟨gb279, 2, none⟩ = some (.int .i64 a0_2) := (blk_cell BK279.out 2).trans rfl
               have hcz74_3 : wc.cell? ⟨gb279, 3, none⟩ = some (.string a0_3) := (blk_cell BK279.out 3).trans rfl
               have hfz74_0 := blk_frozen BK279.out 0
               have hfz74_1 := blk_frozen BK279.out 1
               have hfz74_2 := blk_frozen BK279.out 2
               have hfz74_3 := blk_frozen BK279.out 3
               go_upto_region 21 with (first | ((with_reducible refine gate_callee (f := 17) rfl ?_); refine goesL_ (some 110) rfl rfl Try.func17 (by kernel_rfl) rfl #[.agg #[.int .i64 a0_0, .string a0_1, .int .i64 a0_2, .string a0_3]] rfl (by (try simp only [List.map_toArray, List.map_cons, List.map_nil]); first | done | rfl | (simp only [List.length_drop, List.length_take]; rfl)) ?_; (with_reducible refine (caulkerlaw10_plain.calls kj51 a0_0 a0_1 a0_2 a0_3 true _ A58.out).mono ?_); rintro e w75 ⟨rfl, hb⟩; refine ⟨_, rfl, ?_⟩; replace BK279 := pxk BK279 hb; replace BK290 := pxk BK290 hb; replace BK296 := pxk BK296 hb; replace HB := pxs HB hb; (try clear hb); (try clear hb2); (try clear hk); (try clear hi); obtain ⟨hcz76_0, hcz76_1, hcz76_2, hcz76_3, hfz76_0, hfz76_1, hfz76_2, hfz76_3⟩ := pxf4 BK279) | ((with_reducible refine gate_dst (N := 9) rfl ?_); refine box_event ?hg (N := 9) ?hd (cs := #[.int .i64 0, .string (⟨#[]⟩ : ByteArray), .int .i64 0, .string (⟨#[]⟩ : ByteArray)]) (t := 23) ?hr ?_; (case hd => rfl); (case hg => rfl); (case hr => first | (go_simp; done) | (go_simp; rfl)); intro gb300 hg w77 hbox hb; have BK300 := Aside0.mk (hbox); have GW300 := pxw HB hg; have GE300 := pxw HB hg; have NB279_300 := pxn BK279 hg; have NB300_279 := Aside0.mk (pxn BK279 hg).out.symm; have NB290_300 := pxn BK290 hg; have NB300_290 := Aside0.mk (pxn BK290 hg).out.symm; have NB296_300 := pxn BK296 hg; have NB300_296 := Aside0.mk (pxn BK296 hg).out.symm; replace BK279 := pxk BK279 hb; replace BK290 := pxk BK290 hb; replace BK296 := pxk BK296 hb; replace HB := pxs HB hb; clear hb hbox hg; have hnb78 := NB300_279.out; have hnc78 := NB279_300.out; have hnb79 := NB300_290.out; have hnc79 := NB290_300.out; have hnb80 := NB300_296.out; have hnc80 := NB296_300.out; obtain ⟨hcz81_0, hcz81_1, hcz81_2, hcz81_3, hfz81_0, hfz81_1, hfz81_2, hfz81_3⟩ := pxf4 BK300; obtain ⟨hcz82_0, hcz82_1, hcz82_2, hcz82_3, hfz82_0, hfz82_1, hfz82_2, hfz82_3⟩ := pxf4 BK279; have hnb83 := NB296_290.out; have hnc83 := NB290_296.out; obtain ⟨hcz84_0, hcz84_1, hcz84_2, hcz84_3, hfz84_0, hfz84_1, hfz84_2, hfz84_3⟩ := pxf4 BK296))
               refine caulkerlaw10_KindArrays.told (fun wq1 => wq1.heap[gb300]? = some (.cells #[.int .i64 a0_0, .string a0_1, .int .i64 a0_2, .string a0_3] 23 (0, 0)) ∧ wq1.heap[gb279]? = some (.cells #[.int .i64 a0_0, .string a0_1, .int .i64 a0_2, .string a0_3] 23 (0, 0)) ∧ wq1.heap[gb290]? = some (.cells #[.int .i64 t285, .string t286, .int .i64 t287, .string t288] 23 (0, 0)) ∧ wq1.heap[gb296]? = some (.cells #[.int .i64 t291, .string t292, .int .i64 t293, .string t294] 23 (0, 0)) ∧ Below w.heap.size w wq1) ⟨pxp BK300, pxp BK279, pxp BK290, pxp BK296, pxb HB⟩ ?_
               rintro wq1 ⟨kq0, kq1, kq2, kq3, bq⟩
               replace BK300 := Aside0.mk kq0; replace BK279 := Aside0.mk kq1; replace BK290 := Aside0.mk kq2; replace BK296 := Aside0.mk kq3; replace HB := Aside0.mk bq
               obtain ⟨hy1_300_0, hy1_300_1, hy1_300_2, hy1_300_3, hv1_300_0, hv1_300_1, hv1_300_2, hv1_300_3⟩ := pxf4 BK300
               obtain ⟨hy1_279_0, hy1_279_1, hy1_279_2, hy1_279_3, hv1_279_0, hv1_279_1, hv1_279_2, hv1_279_3⟩ := pxf4 BK279
               obtain ⟨hy1_290_0, hy1_290_1, hy1_290_2, hy1_290_3, hv1_290_0, hv1_290_1, hv1_290_2, hv1_290_3⟩ := pxf4 BK290
               obtain ⟨hy1_296_0, hy1_296_1, hy1_296_2, hy1_296_3, hv1_296_0, hv1_296_1, hv1_296_2, hv1_296_3⟩ := pxf4 BK296
               go_upto_region 22 with (fail)
               refine caulkerlaw10_KindArrays.told (fun wq2 => wq2.heap[gb300]? = some (.cells #[.int .i64 a0_0, .string a0_1, .int .i64 (wrap64 (a0_2 - 1)), .string a0_3] 23 (0, 0)) ∧ wq2.heap[gb279]? = some (.cells #[.int .i64 a0_0, .string a0_1, .int .i64 a0_2, .string a0_3] 23 (0, 0)) ∧ wq2.heap[gb290]? = some (.cells #[.int .i64 t285, .string t286, .int .i64 t287, .string t288] 23 (0, 0)) ∧ wq2.heap[gb296]? = some (.cells #[.int .i64 t291, .string t292, .int .i64 t293, .string t294] 23 (0, 0)) ∧ Below w.heap.size w wq2) ⟨pxp BK300, pxp BK279, pxp BK290, pxp BK296, pxb HB⟩ ?_
               rintro wq2 ⟨kq0, kq1, kq2, kq3, bq⟩
               replace BK300 := Aside0.mk kq0; replace BK279 := Aside0.mk kq1; replace BK290 := Aside0.mk kq2; replace BK296 := Aside0.mk kq3; replace HB := Aside0.mk bq
               obtain ⟨hy2_300_0, hy2_300_1, hy2_300_2, hy2_300_3, hv2_300_0, hv2_300_1, hv2_300_2, hv2_300_3⟩ := pxf4 BK300
               obtain ⟨hy2_279_0, hy2_279_1, hy2_279_2, hy2_279_3, hv2_279_0, hv2_279_1, hv2_279_2, hv2_279_3⟩ := pxf4 BK279
               obtain ⟨hy2_290_0, hy2_290_1, hy2_290_2, hy2_290_3, hv2_290_0, hv2_290_1, hv2_290_2, hv2_290_3⟩ := pxf4 BK290
               obtain ⟨hy2_296_0, hy2_296_1, hy2_296_2, hy2_296_3, hv2_296_0, hv2_296_1, hv2_296_2, hv2_296_3⟩ := pxf4 BK296
               go_upto_region 23 with (fail)
               refine caulkerlaw10_KindArrays.told (fun wq3 => wq3.heap[gb300]? = some (.cells #[.int .i64 a0_0, .string a0_1, .int .i64 (wrap64 (a0_2 - 1)), .string (a0_3.extract 0 a0_2.toNat)] 23 (0, 0)) ∧ wq3.heap[gb279]? = some (.cells #[.int .i64 a0_0, .string a0_1, .int .i64 a0_2, .string a0_3] 23 (0, 0)) ∧ wq3.heap[gb290]? = some (.cells #[.int .i64 t285, .string t286, .int .i64 t287, .string t288] 23 (0, 0)) ∧ wq3.heap[gb296]? = some (.cells #[.int .i64 t291, .string t292, .int .i64 t293, .string t294] 23 (0, 0)) ∧ Below w.heap.size w wq3) ⟨pxp BK300, pxp BK279, pxp BK290, pxp BK296, pxb HB⟩ ?_
               rintro wq3 ⟨kq0, kq1, kq2, kq3, bq⟩
               replace BK300 := Aside0.mk kq0; replace BK279 := Aside0.mk kq1; replace BK290 := Aside0.mk kq2; replace BK296 := Aside0.mk kq3; replace HB := Aside0.mk bq
               obtain ⟨hy3_300_0, hy3_300_1, hy3_300_2, hy3_300_3, hv3_300_0, hv3_300_1, hv3_300_2, hv3_300_3⟩ := pxf4 BK300
               obtain ⟨hy3_279_0, hy3_279_1, hy3_279_2, hy3_279_3, hv3_279_0, hv3_279_1, hv3_279_2, hv3_279_3⟩ := pxf4 BK279
               obtain ⟨hy3_290_0, hy3_290_1, hy3_290_2, hy3_290_3, hv3_290_0, hv3_290_1, hv3_290_2, hv3_290_3⟩ := pxf4 BK290
               obtain ⟨hy3_296_0, hy3_296_1, hy3_296_2, hy3_296_3, hv3_296_0, hv3_296_1, hv3_296_2, hv3_296_3⟩ := pxf4 BK296
               go_wp2
               go_ret
               exact ⟨by first | rfl | (simp [errW_none, errW_some] <;> rfl) | (simp [*, errW_none, errW_some] <;> rfl) | (simp [*, pxbeq, pxbne, errW_none, errW_some]; done), pxb HB⟩
              ·rw [if_neg c71] at H
               exact absurd H (by simp)
             ·rw [if_neg c70] at H
              exact absurd H (by simp)
            ·rw [if_neg c69] at H
             exact absurd H (by simp)
          ·replace c59 := Bool.eq_false_iff.mpr c59
           subst c59
           have H1 : (if t295 = 130 then (some (t291 == 0 && (t292.toList == ([] : List UInt8) && (t293 == 0 && (t294.toList == ([] : List UInt8)))))) else (none)) = some r := by rw [if_neg (show ¬ (false = true) by decide)] at H; exact H
           clear H
           have H := H1
           clear H1
           by_cases c85 : t295 = 130
           ·rw [if_pos c85] at H
            have c85b0 : (t295 == 130) = true := beq_iff_eq.mpr c85
            have c85b1 : (t295 != 130) = false := bne_eq_false_iff_eq.mpr c85
            clear c85
            obtain rfl := Option.some.inj H
            have hnb86 := NB279_290.out
            have hnc86 := NB290_279.out
            have hnb87 := NB279_296.out
            have hnc87 := NB296_279.out
            have hcz88_0 : wc.cell? ⟨gb279, 0, none⟩ = some (.int .i64 a0_0) := (blk_cell BK279.out 0).trans rfl
            have hcz88_1 : wc.cell? ⟨gb279, 1, none⟩ = some (.string a0_1) := (blk_cell BK279.out 1).trans rfl
            have hcz88_2 : wc.cell? ⟨gb279, 2, none⟩ = some (.int .i64 a0_2) := (blk_cell BK279.out 2).trans rfl
            have hcz88_3 : wc.cell? ⟨gb279, 3, none⟩ = some (.string a0_3) := (blk_cell BK279.out 3).trans rfl
            have hfz88_0 := blk_frozen BK279.out 0
            have hfz88_1 := blk_frozen BK279.out 1
            have hfz88_2 := blk_frozen BK279.out 2
            have hfz88_3 := blk_frozen BK279.out 3
            go_wp2_with (first | ((with_reducible refine gate_callee (f := 17) rfl ?_); refine goesL_ (some 110) rfl rfl Try.func17 (by kernel_rfl) rfl #[.agg #[.int .i64 a0_0, .string a0_1, .int .i64 a0_2, .string a0_3]] rfl (by (try simp only [List.map_toArray, List.map_cons, List.map_nil]); first | done | rfl | (simp only [List.length_drop, List.length_take]; rfl)) ?_; (with_reducible refine (caulkerlaw10_plain.calls kj51 a0_0 a0_1 a0_2 a0_3 false _ A58.out).mono ?_); rintro e w89 ⟨rfl, hb⟩; refine ⟨_, rfl, ?_⟩; replace BK279 := pxk BK279 hb; replace BK290 := pxk BK290 hb; replace BK296 := pxk BK296 hb; replace HB := pxs HB hb; (try clear hb); (try clear hb2); (try clear hk); (try clear hi); have hnb90 := NB296_290.out; have hnc90 := NB290_296.out; obtain ⟨hcz91_0, hcz91_1, hcz91_2, hcz91_3, hfz91_0, hfz91_1, hfz91_2, hfz91_3⟩ := pxf4 BK296))
            go_ret
            exact ⟨by first | rfl | (simp [errW_none, errW_some] <;> rfl) | (simp [*, errW_none, errW_some] <;> rfl) | (simp [*, pxbeq, pxbne, errW_none, errW_some]; done), pxb HB⟩
           ·rw [if_neg c85] at H
            exact absurd H (by simp)
      ·replace c51 := Bool.eq_false_iff.mpr c51
       subst c51
       have H1 : (if a0_2 = 4 then (if t289 = 2 then (caulkerlaw10_KindArrays.j2 kj9 t295 (!(t285 == 0) || (!(t286.toList == ([] : List UInt8)) || (!(t287 == 0) || (!(t288.toList == ([] : List UInt8)))))) a0_0 a0_1 a0_2 a0_3 t291 t292 t293 t294) else (caulkerlaw10_KindArrays.j2 kj9 t295 true a0_0 a0_1 a0_2 a0_3 t291 t292 t293 t294)) else ((kind_Elem.f kj9 t285 t286 t287 t288).bind fun bt303 => (if t289 = 0 then (if bt303.2.2.2.2 = 0 then (if (!(bt303.1 == a0_0) || (!(bt303.2.1.toList == a0_1.toList) || (!(bt303.2.2.1 == a0_2) || (!(bt303.2.2.2.1.toList == a0_3.toList))))) = true then (caulkerlaw10_KindArrays.j3 kj9 t295 true a0_0 a0_1 a0_2 a0_3 t291 t292 t293 t294) else (if a0_3.size + 1 ≤ 9223372036854775807 then (if t288.toList = (a0_3 ++ (⟨#[32]⟩ : ByteArray)).toList then ((kind_Outer.f kj9 t285 t286 t287 t288).bind fun t309 => (caulkerlaw10_KindArrays.j3 kj9 t295 (t309 != 32) a0_0 a0_1 a0_2 a0_3 t291 t292 t293 t294)) else (caulkerlaw10_KindArrays.j3 kj9 t295 true a0_0 a0_1 a0_2 a0_3 t291 t292 t293 t294)) else (none))) else (caulkerlaw10_KindArrays.j3 kj9 t295 true a0_0 a0_1 a0_2 a0_3 t291 t292 t293 t294)) else (caulkerlaw10_KindArrays.j3 kj9 t295 true a0_0 a0_1 a0_2 a0_3 t291 t292 t293 t294)))) = some r := by rw [if_neg (show ¬ (false = true) by decide)] at H; exact H
       clear H
       have H := H1
       clear H1
       by_cases c92 : a0_2 = 4
       ·rw [if_pos c92] at H
        have c92b0 : (a0_2 == 4) = true := beq_iff_eq.mpr c92
        have c92b1 : (a0_2 != 4) = false := bne_eq_false_iff_eq.mpr c92
        clear c92
        have HC93 := Aside0.mk H
        clear H
        have hnb94 := NB279_290.out
        have hnc94 := NB290_279.out
        have hnb95 := NB279_296.out
        have hnc95 := NB296_279.out
        have hcz96_0 : wc.cell? ⟨gb279, 0, none⟩ = some (.int .i64 a0_0) := (blk_cell BK279.out 0).trans rfl
        have hcz96_1 : wc.cell? ⟨gb279, 1, none⟩ = some (.string a0_1) := (blk_cell BK279.out 1).trans rfl
        have hcz96_2 : wc.cell? ⟨gb279, 2, none⟩ = some (.int .i64 a0_2) := (blk_cell BK279.out 2).trans rfl
        have hcz96_3 : wc.cell? ⟨gb279, 3, none⟩ = some (.string a0_3) := (blk_cell BK279.out 3).trans rfl
        have hfz96_0 := blk_frozen BK279.out 0
        have hfz96_1 := blk_frozen BK279.out 1
        have hfz96_2 := blk_frozen BK279.out 2
        have hfz96_3 := blk_frozen BK279.out 3
        go_upto_region 16 with (fail)
        go_cut [108] (fun v108 wc => ∃ (kq : Nat) (x108_92 : Bool), v108 = .bool x108_92 ∧ Aside0 (caulkerlaw10_KindArrays.j2 kq t295 x108_92 a0_0 a0_1 a0_2 a0_3 t291 t292 t293 t294 = some r) ∧ Aside0 (kq ≤ kj9) ∧ Aside0 (wc.heap[gb279]? = some (.cells #[.int .i64 a0_0, .string a0_1, .int .i64 a0_2, .string a0_3] 23 (0, 0))) ∧ Aside0 (wc.heap[gb290]? = some (.cells #[.int .i64 t285, .string t286, .int .i64 t287, .string t288] 23 (0, 0))) ∧ Aside0 (wc.heap[gb296]? = some (.cells #[.int .i64 t291, .string t292, .int .i64 t293, .string t294] 23 (0, 0))) ∧ Aside0 (Below w.heap.size w wc))
        case first =>
         have H := HC93.out
         clear HC93
         by_cases c97 : t289 = 2
         ·rw [if_pos c97] at H
          have c97b0 : (t289 == 2) = true := beq_iff_eq.mpr c97
          have c97b1 : (t289 != 2) = false := bne_eq_false_iff_eq.mpr c97
          clear c97
          (first | rw [c97b0] | (simp only [i64_w, i32_w]; rw [c97b0]) | skip)
          have H' := Aside0.mk H
          clear H
          have hnb98 := NB290_279.out
          have hnc98 := NB279_290.out
          have hnb99 := NB290_296.out
          have hnc99 := NB296_290.out
          have hcz100_0 : wc.cell? ⟨gb290, 0, none⟩ = some (.int .i64 t285) := (blk_cell BK290.out 0).trans rfl
          have hcz100_1 : wc.cell? ⟨gb290, 1, none⟩ = some (.string t286) := (blk_cell BK290.out 1).trans rfl
          have hcz100_2 : wc.cell? ⟨gb290, 2, none⟩ = some (.int .i64 t287) := (blk_cell BK290.out 2).trans rfl
          have hcz100_3 : wc.cell? ⟨gb290, 3, none⟩ = some (.string t288) := (blk_cell BK290.out 3).trans rfl
          have hfz100_0 := blk_frozen BK290.out 0
          have hfz100_1 := blk_frozen BK290.out 1
          have hfz100_2 := blk_frozen BK290.out 2
          have hfz100_3 := blk_frozen BK290.out 3
          go_wp2
          go_meet
          case rel => exact ⟨_, ((!(t285 == 0) || (!(t286.toList == ([] : List UInt8)) || (!(t287 == 0) || (!(t288.toList == ([] : List UInt8))))))), (by first | rfl | (simp; done) | (simp [*]; done)), H', ⟨by have := HJ9.out; first | omega | exact Nat.le_refl _⟩, ⟨pxq BK279⟩, ⟨pxq BK290⟩, ⟨pxq BK296⟩, ⟨pxb HB⟩⟩
         ·rw [if_neg c97] at H
          have c97b0 : (t289 == 2) = false := beq_eq_false_iff_ne.mpr c97
          have c97b1 : (t289 != 2) = true := bne_iff_ne.mpr c97
          (first | rw [c97b0] | (simp only [i64_w, i32_w]; rw [c97b0]) | skip)
          have H' := Aside0.mk H
          clear H
          go_wp2
          go_meet
          case rel => exact ⟨_, (true), (by first | rfl | (simp; done) | (simp [*]; done)), H', ⟨by have := HJ9.out; first | omega | exact Nat.le_refl _⟩, ⟨pxq BK279⟩, ⟨pxq BK290⟩, ⟨pxq BK296⟩, ⟨pxb HB⟩⟩
        case rest => as_aux_lemma =>
         clear HC93
         (try clear c1); (try clear c2); (try clear p2); (try clear c3); (try clear c4); (try clear p4); (try clear q4); (try clear hx4); (try clear c5); (try clear c6); (try clear p6); (try clear c7); (try clear c8); (try clear c9); (try clear c10); (try clear c11); (try clear c17); (try clear c19); (try clear c20); (try clear c21); (try clear c26); (try clear c27); (try clear c32); (try clear c33); (try clear c33b0); (try clear c33b1); (try clear c34); (try clear c35); (try clear c39); (try clear c39b0); (try clear c40); (try clear c40b0); (try clear p41); (try clear q41); (try clear hx41); (try clear c42); (try clear c43); (try clear c47); (try clear c48); (try clear c51); (try clear c53); (try clear c53b0); (try clear c53b1); (try clear c54); (try clear c55); (try clear c57); (try clear c59); (try clear c60); (try clear c60b0); (try clear c60b1); (try clear c61); (try clear c61b0); (try clear c61b1); (try clear c62); (try clear c63); (try clear p64); (try clear c67); (try clear c69); (try clear c69b0); (try clear c69b1); (try clear c70); (try clear c70b0); (try clear c70b1); (try clear c71); (try clear c71b0); (try clear c71b1); (try clear c72); (try clear c73); (try clear c78); (try clear c79); (try clear c80); (try clear c83); (try clear c85); (try clear c85b0); (try clear c85b1); (try clear c86); (try clear c87); (try clear c90); (try clear c92); (try clear c92b0); (try clear c92b1); (try clear c94); (try clear c95); (try clear c97); (try clear c97b0); (try clear c97b1); (try clear c98); (try clear c99); (try clear hcz100_0 hcz100_1 hcz100_2 hcz100_3 hfz100_0 hfz100_1 hfz100_2 hfz100_3); (try clear hcz13_0 hcz13_1 hcz13_2 hcz13_3 hfz13_0 hfz13_1 hfz13_2 hfz13_3); (try clear hcz18_0 hcz18_1 hcz18_2 hcz18_3 hfz18_0 hfz18_1 hfz18_2 hfz18_3); (try clear hcz22_0 hcz22_1 hcz22_2 hcz22_3 hfz22_0 hfz22_1 hfz22_2 hfz22_3); (try clear hcz23_0 hcz23_1 hcz23_2 hcz23_3 hfz23_0 hfz23_1 hfz23_2 hfz23_3); (try clear hcz28_0 hcz28_1 hcz28_2 hcz28_3 hfz28_0 hfz28_1 hfz28_2 hfz28_3); (try clear hcz29_0 hcz29_1 hcz29_2 hcz29_3 hfz29_0 hfz29_1 hfz29_2 hfz29_3); (try clear hcz36_0 hcz36_1 hcz36_2 hcz36_3 hfz36_0 hfz36_1 hfz36_2 hfz36_3); (try clear hcz38_0 hcz38_1 hcz38_2 hcz38_3 hfz38_0 hfz38_1 hfz38_2 hfz38_3); (try clear hcz44_0 hcz44_1 hcz44_2 hcz44_3 hfz44_0 hfz44_1 hfz44_2 hfz44_3); (try clear hcz46_0 hcz46_1 hcz46_2 hcz46_3 hfz46_0 hfz46_1 hfz46_2 hfz46_3); (try clear hcz49_0 hcz49_1 hcz49_2 hcz49_3 hfz49_0 hfz49_1 hfz49_2 hfz49_3); (try clear hcz56_0 hcz56_1 hcz56_2 hcz56_3 hfz56_0 hfz56_1 hfz56_2 hfz56_3); (try clear hcz64_0 hcz64_1 hcz64_2 hcz64_3 hfz64_0 hfz64_1 hfz64_2 hfz64_3); (try clear hcz66_0 hcz66_1 hcz66_2 hcz66_3 hfz66_0 hfz66_1 hfz66_2 hfz66_3); (try clear hcz68_0 hcz68_1 hcz68_2 hcz68_3 hfz68_0 hfz68_1 hfz68_2 hfz68_3); (try clear hcz74_0 hcz74_1 hcz74_2 hcz74_3 hfz74_0 hfz74_1 hfz74_2 hfz74_3); (try clear hcz76_0 hcz76_1 hcz76_2 hcz76_3 hfz76_0 hfz76_1 hfz76_2 hfz76_3); (try clear hcz81_0 hcz81_1 hcz81_2 hcz81_3 hfz81_0 hfz81_1 hfz81_2 hfz81_3); (try clear hcz82_0 hcz82_1 hcz82_2 hcz82_3 hfz82_0 hfz82_1 hfz82_2 hfz82_3); (try clear hcz84_0 hcz84_1 hcz84_2 hcz84_3 hfz84_0 hfz84_1 hfz84_2 hfz84_3); (try clear hcz88_0 hcz88_1 hcz88_2 hcz88_3 hfz88_0 hfz88_1 hfz88_2 hfz88_3); (try clear hcz91_0 hcz91_1 hcz91_2 hcz91_3 hfz91_0 hfz91_1 hfz91_2 hfz91_3); (try clear hcz96_0 hcz96_1 hcz96_2 hcz96_3 hfz96_0 hfz96_1 hfz96_2 hfz96_3)
         obtain ⟨kq, x108_92, rfl, HA, HJ92, BK279, BK290, BK296, HB⟩ := hcut
         cases kq with
         | zero => exact absurd HA.out (by simp [caulkerlaw10_KindArrays.j2])
         | succ kj92 =>
          have H := HA.out
          clear HA
          simp only [caulkerlaw10_KindArrays.j2] at H
          by_cases c101 : x108_92 = true
          ·subst c101
           have H1 : (none) = some r := by rw [if_pos rfl] at H; exact H
           clear H
           have H := H1
           clear H1
           exact absurd H (by simp)
          ·replace c101 := Bool.eq_false_iff.mpr c101
           subst c101
           have H1 : ((caulkerlaw10_plain.f kj92 a0_0 a0_1 a0_2 a0_3).bind fun t301 => (if t301 = true then (if a0_2 = 0 then (if t295 = 130 then (some (t291 == 0 && (t292.toList == ([] : List UInt8) && (t293 == 0 && (t294.toList == ([] : List UInt8)))))) else (none)) else (if 0 ≤ a0_2 then (if a0_2 ≤ (a0_3.size : Int) then (if t295 = 0 then (some (t291 == a0_0 && (t292.toList == a0_1.toList && (t293 == (wrap64 (a0_2 - 1)) && (t294.toList == ((a0_3.extract 0 (a0_2 : Int).toNat).toList)))))) else (none)) else (none)) else (none))) else (if t295 = 130 then (some (t291 == 0 && (t292.toList == ([] : List UInt8) && (t293 == 0 && (t294.toList == ([] : List UInt8)))))) else (none)))) = some r := by rw [if_neg (show ¬ (false = true) by decide)] at H; exact H
           clear H
           have H := H1
           clear H1
           replace H := Option.bind_eq_some_iff.mp H
           obtain ⟨t301, A1020, H⟩ := H
           replace H : (if t301 = true then (if a0_2 = 0 then (if t295 = 130 then (some (t291 == 0 && (t292.toList == ([] : List UInt8) && (t293 == 0 && (t294.toList == ([] : List UInt8)))))) else (none)) else (if 0 ≤ a0_2 then (if a0_2 ≤ (a0_3.size : Int) then (if t295 = 0 then (some (t291 == a0_0 && (t292.toList == a0_1.toList && (t293 == (wrap64 (a0_2 - 1)) && (t294.toList == ((a0_3.extract 0 (a0_2 : Int).toNat).toList)))))) else (none)) else (none)) else (none))) else (if t295 = 130 then (some (t291 == 0 && (t292.toList == ([] : List UInt8) && (t293 == 0 && (t294.toList == ([] : List UInt8)))))) else (none))) = some r := H
           have A102 := Aside0.mk A1020
           clear A1020
           by_cases c103 : t301 = true
           ·subst c103
            have H1 : (if a0_2 = 0 then (if t295 = 130 then (some (t291 == 0 && (t292.toList == ([] : List UInt8) && (t293 == 0 && (t294.toList == ([] : List UInt8)))))) else (none)) else (if 0 ≤ a0_2 then (if a0_2 ≤ (a0_3.size : Int) then (if t295 = 0 then (some (t291 == a0_0 && (t292.toList == a0_1.toList && (t293 == (wrap64 (a0_2 - 1)) && (t294.toList == ((a0_3.extract 0 (a0_2 : Int).toNat).toList)))))) else (none)) else (none)) else (none))) = some r := by rw [if_pos rfl] at H; exact H
            clear H
            have H := H1
            clear H1
            by_cases c104 : a0_2 = 0
            ·rw [if_pos c104] at H
             have c104b0 : (a0_2 == 0) = true := beq_iff_eq.mpr c104
             have c104b1 : (a0_2 != 0) = false := bne_eq_false_iff_eq.mpr c104
             clear c104
             by_cases c105 : t295 = 130
             ·rw [if_pos c105] at H
              have c105b0 : (t295 == 130) = true := beq_iff_eq.mpr c105
              have c105b1 : (t295 != 130) = false := bne_eq_false_iff_eq.mpr c105
              clear c105
              obtain rfl := Option.some.inj H
              have hnb106 := NB279_290.out
              have hnc106 := NB290_279.out
              have hnb107 := NB279_296.out
              have hnc107 := NB296_279.out
              have hcz108_0 : wc.cell? ⟨gb279, 0, none⟩ = some (.int .i64 a0_0) := (blk_cell BK279.out 0).trans rfl
              have hcz108_1 : wc.cell? ⟨gb279, 1, none⟩ = some (.string a0_1) := (blk_cell BK279.out 1).trans rfl
              have hcz108_2 : wc.cell? ⟨gb279, 2, none⟩ = some (.int .i64 a0_2) := (blk_cell BK279.out 2).trans rfl
              have hcz108_3 : wc.cell? ⟨gb279, 3, none⟩ = some (.string a0_3) := (blk_cell BK279.out 3).trans rfl
              have hfz108_0 := blk_frozen BK279.out 0
              have hfz108_1 := blk_frozen BK279.out 1
              have hfz108_2 := blk_frozen BK279.out 2
              have hfz108_3 := blk_frozen BK279.out 3
              go_wp2_with (first | ((with_reducible refine gate_callee (f := 17) rfl ?_); refine goesL_ (some 110) rfl rfl Try.func17 (by kernel_rfl) rfl #[.agg #[.int .i64 a0_0, .string a0_1, .int .i64 a0_2, .string a0_3]] rfl (by (try simp only [List.map_toArray, List.map_cons, List.map_nil]); first | done | rfl | (simp only [List.length_drop, List.length_take]; rfl)) ?_; (with_reducible refine (caulkerlaw10_plain.calls kj92 a0_0 a0_1 a0_2 a0_3 true _ A102.out).mono ?_); rintro e w109 ⟨rfl, hb⟩; refine ⟨_, rfl, ?_⟩; replace BK279 := pxk BK279 hb; replace BK290 := pxk BK290 hb; replace BK296 := pxk BK296 hb; replace HB := pxs HB hb; (try clear hb); (try clear hb2); (try clear hk); (try clear hi); obtain ⟨hcz110_0, hcz110_1, hcz110_2, hcz110_3, hfz110_0, hfz110_1, hfz110_2, hfz110_3⟩ := pxf4 BK279; have hnb111 := NB296_290.out; have hnc111 := NB290_296.out; obtain ⟨hcz112_0, hcz112_1, hcz112_2, hcz112_3, hfz112_0, hfz112_1, hfz112_2, hfz112_3⟩ := pxf4 BK296))
              go_ret
              exact ⟨by first | rfl | (simp [errW_none, errW_some] <;> rfl) | (simp [*, errW_none, errW_some] <;> rfl) | (simp [*, pxbeq, pxbne, errW_none, errW_some]; done), pxb HB⟩
             ·rw [if_neg c105] at H
              exact absurd H (by simp)
            ·rw [if_neg c104] at H
             have c104b0 : (a0_2 == 0) = false := beq_eq_false_iff_ne.mpr c104
             have c104b1 : (a0_2 != 0) = true := bne_iff_ne.mpr c104
             by_cases c113 : 0 ≤ a0_2
             ·rw [if_pos c113] at H
              have c113b0 := eq_true c113
              have c113b1 : decide (0 ≤ a0_2) = true := decide_eq_true c113
              clear c113
              by_cases c114 : a0_2 ≤ (a0_3.size : Int)
              ·rw [if_pos c114] at H
               have c114b0 := eq_true c114
               have c114b1 : decide (a0_2 ≤ (a0_3.size : Int)) = true := decide_eq_true c114
               clear c114
               by_cases c115 : t295 = 0
               ·rw [if_pos c115] at H
                have c115b0 : (t295 == 0) = true := beq_iff_eq.mpr c115
                have c115b1 : (t295 != 0) = false := bne_eq_false_iff_eq.mpr c115
                clear c115
                obtain rfl := Option.some.inj H
                have hnb116 := NB279_290.out
                have hnc116 := NB290_279.out
                have hnb117 := NB279_296.out
                have hnc117 := NB296_279.out
                have hcz118_0 : wc.cell? ⟨gb279, 0, none⟩ = some (.int .i64 a0_0) := (blk_cell BK279.out 0).trans rfl
                have hcz118_1 : wc.cell? ⟨gb279, 1, none⟩ = some (.string a0_1) := (blk_cell BK279.out 1).trans rfl
                have hcz118_2 : wc.cell? ⟨gb279, 2, none⟩ = some (.int .i64 a0_2) := (blk_cell BK279.out 2).trans rfl
                have hcz118_3 : wc.cell? ⟨gb279, 3, none⟩ = some (.string a0_3) := (blk_cell BK279.out 3).trans rfl
                have hfz118_0 := blk_frozen BK279.out 0
                have hfz118_1 := blk_frozen BK279.out 1
                have hfz118_2 := blk_frozen BK279.out 2
                have hfz118_3 := blk_frozen BK279.out 3
                go_upto_region 21 with (first | ((with_reducible refine gate_callee (f := 17) rfl ?_); refine goesL_ (some 110) rfl rfl Try.func17 (by kernel_rfl) rfl #[.agg #[.int .i64 a0_0, .string a0_1, .int .i64 a0_2, .string a0_3]] rfl (by (try simp only [List.map_toArray, List.map_cons, List.map_nil]); first | done | rfl | (simp only [List.length_drop, List.length_take]; rfl)) ?_; (with_reducible refine (caulkerlaw10_plain.calls kj92 a0_0 a0_1 a0_2 a0_3 true _ A102.out).mono ?_); rintro e w119 ⟨rfl, hb⟩; refine ⟨_, rfl, ?_⟩; replace BK279 := pxk BK279 hb; replace BK290 := pxk BK290 hb; replace BK296 := pxk BK296 hb; replace HB := pxs HB hb; (try clear hb); (try clear hb2); (try clear hk); (try clear hi); obtain ⟨hcz120_0, hcz120_1, hcz120_2, hcz120_3, hfz120_0, hfz120_1, hfz120_2, hfz120_3⟩ := pxf4 BK279) | ((with_reducible refine gate_dst (N := 9) rfl ?_); refine box_event ?hg (N := 9) ?hd (cs := #[.int .i64 0, .string (⟨#[]⟩ : ByteArray), .int .i64 0, .string (⟨#[]⟩ : ByteArray)]) (t := 23) ?hr ?_; (case hd => rfl); (case hg => rfl); (case hr => first | (go_simp; done) | (go_simp; rfl)); intro gb302 hg w121 hbox hb; have BK302 := Aside0.mk (hbox); have GW302 := pxw HB hg; have GE302 := pxw HB hg; have NB279_302 := pxn BK279 hg; have NB302_279 := Aside0.mk (pxn BK279 hg).out.symm; have NB290_302 := pxn BK290 hg; have NB302_290 := Aside0.mk (pxn BK290 hg).out.symm; have NB296_302 := pxn BK296 hg; have NB302_296 := Aside0.mk (pxn BK296 hg).out.symm; replace BK279 := pxk BK279 hb; replace BK290 := pxk BK290 hb; replace BK296 := pxk BK296 hb; replace HB := pxs HB hb; clear hb hbox hg; have hnb122 := NB302_279.out; have hnc122 := NB279_302.out; have hnb123 := NB302_290.out; have hnc123 := NB290_302.out; have hnb124 := NB302_296.out; have hnc124 := NB296_302.out; obtain ⟨hcz125_0, hcz125_1, hcz125_2, hcz125_3, hfz125_0, hfz125_1, hfz125_2, hfz125_3⟩ := pxf4 BK302; obtain ⟨hcz126_0, hcz126_1, hcz126_2, hcz126_3, hfz126_0, hfz126_1, hfz126_2, hfz126_3⟩ := pxf4 BK279; have hnb127 := NB296_290.out; have hnc127 := NB290_296.out; obtain ⟨hcz128_0, hcz128_1, hcz128_2, hcz128_3, hfz128_0, hfz128_1, hfz128_2, hfz128_3⟩ := pxf4 BK296))
                refine caulkerlaw10_KindArrays.told (fun wq1 => wq1.heap[gb302]? = some (.cells #[.int .i64 a0_0, .string a0_1, .int .i64 a0_2, .string a0_3] 23 (0, 0)) ∧ wq1.heap[gb279]? = some (.cells #[.int .i64 a0_0, .string a0_1, .int .i64 a0_2, .string a0_3] 23 (0, 0)) ∧ wq1.heap[gb290]? = some (.cells #[.int .i64 t285, .string t286, .int .i64 t287, .string t288] 23 (0, 0)) ∧ wq1.heap[gb296]? = some (.cells #[.int .i64 t291, .string t292, .int .i64 t293, .string t294] 23 (0, 0)) ∧ Below w.heap.size w wq1) ⟨pxp BK302, pxp BK279, pxp BK290, pxp BK296, pxb HB⟩ ?_
                rintro wq1 ⟨kq0, kq1, kq2, kq3, bq⟩
                replace BK302 := Aside0.mk kq0; replace BK279 := Aside0.mk kq1; replace BK290 := Aside0.mk kq2; replace BK296 := Aside0.mk kq3; replace HB := Aside0.mk bq
                obtain ⟨hy1_302_0, hy1_302_1, hy1_302_2, hy1_302_3, hv1_302_0, hv1_302_1, hv1_302_2, hv1_302_3⟩ := pxf4 BK302
                obtain ⟨hy1_279_0, hy1_279_1, hy1_279_2, hy1_279_3, hv1_279_0, hv1_279_1, hv1_279_2, hv1_279_3⟩ := pxf4 BK279
                obtain ⟨hy1_290_0, hy1_290_1, hy1_290_2, hy1_290_3, hv1_290_0, hv1_290_1, hv1_290_2, hv1_290_3⟩ := pxf4 BK290
                obtain ⟨hy1_296_0, hy1_296_1, hy1_296_2, hy1_296_3, hv1_296_0, hv1_296_1, hv1_296_2, hv1_296_3⟩ := pxf4 BK296
                go_upto_region 22 with (fail)
                refine caulkerlaw10_KindArrays.told (fun wq2 => wq2.heap[gb302]? = some (.cells #[.int .i64 a0_0, .string a0_1, .int .i64 (wrap64 (a0_2 - 1)), .string a0_3] 23 (0, 0)) ∧ wq2.heap[gb279]? = some (.cells #[.int .i64 a0_0, .string a0_1, .int .i64 a0_2, .string a0_3] 23 (0, 0)) ∧ wq2.heap[gb290]? = some (.cells #[.int .i64 t285, .string t286, .int .i64 t287, .string t288] 23 (0, 0)) ∧ wq2.heap[gb296]? = some (.cells #[.int .i64 t291, .string t292, .int .i64 t293, .string t294] 23 (0, 0)) ∧ Below w.heap.size w wq2) ⟨pxp BK302, pxp BK279, pxp BK290, pxp BK296, pxb HB⟩ ?_
                rintro wq2 ⟨kq0, kq1, kq2, kq3, bq⟩
                replace BK302 := Aside0.mk kq0; replace BK279 := Aside0.mk kq1; replace BK290 := Aside0.mk kq2; replace BK296 := Aside0.mk kq3; replace HB := Aside0.mk bq
                obtain ⟨hy2_302_0, hy2_302_1, hy2_302_2, hy2_302_3, hv2_302_0, hv2_302_1, hv2_302_2, hv2_302_3⟩ := pxf4 BK302
                obtain ⟨hy2_279_0, hy2_279_1, hy2_279_2, hy2_279_3, hv2_279_0, hv2_279_1, hv2_279_2, hv2_279_3⟩ := pxf4 BK279
                obtain ⟨hy2_290_0, hy2_290_1, hy2_290_2, hy2_290_3, hv2_290_0, hv2_290_1, hv2_290_2, hv2_290_3⟩ := pxf4 BK290
                obtain ⟨hy2_296_0, hy2_296_1, hy2_296_2, hy2_296_3, hv2_296_0, hv2_296_1, hv2_296_2, hv2_296_3⟩ := pxf4 BK296
                go_upto_region 23 with (fail)
                refine caulkerlaw10_KindArrays.told (fun wq3 => wq3.heap[gb302]? = some (.cells #[.int .i64 a0_0, .string a0_1, .int .i64 (wrap64 (a0_2 - 1)), .string (a0_3.extract 0 a0_2.toNat)] 23 (0, 0)) ∧ wq3.heap[gb279]? = some (.cells #[.int .i64 a0_0, .string a0_1, .int .i64 a0_2, .string a0_3] 23 (0, 0)) ∧ wq3.heap[gb290]? = some (.cells #[.int .i64 t285, .string t286, .int .i64 t287, .string t288] 23 (0, 0)) ∧ wq3.heap[gb296]? = some (.cells #[.int .i64 t291, .string t292, .int .i64 t293, .string t294] 23 (0, 0)) ∧ Below w.heap.size w wq3) ⟨pxp BK302, pxp BK279, pxp BK290, pxp BK296, pxb HB⟩ ?_
                rintro wq3 ⟨kq0, kq1, kq2, kq3, bq⟩
                replace BK302 := Aside0.mk kq0; replace BK279 := Aside0.mk kq1; replace BK290 := Aside0.mk kq2; replace BK296 := Aside0.mk kq3; replace HB := Aside0.mk bq
                obtain ⟨hy3_302_0, hy3_302_1, hy3_302_2, hy3_302_3, hv3_302_0, hv3_302_1, hv3_302_2, hv3_302_3⟩ := pxf4 BK302
                obtain ⟨hy3_279_0, hy3_279_1, hy3_279_2, hy3_279_3, hv3_279_0, hv3_279_1, hv3_279_2, hv3_279_3⟩ := pxf4 BK279
                obtain ⟨hy3_290_0, hy3_290_1, hy3_290_2, hy3_290_3, hv3_290_0, hv3_290_1, hv3_290_2, hv3_290_3⟩ := pxf4 BK290
                obtain ⟨hy3_296_0, hy3_296_1, hy3_296_2, hy3_296_3, hv3_296_0, hv3_296_1, hv3_296_2, hv3_296_3⟩ := pxf4 BK296
                go_wp2
                go_ret
                exact ⟨by first | rfl | (simp [errW_none, errW_some] <;> rfl) | (simp [*, errW_none, errW_some] <;> rfl) | (simp [*, pxbeq, pxbne, errW_none, errW_some]; done), pxb HB⟩
               ·rw [if_neg c115] at H
                exact absurd H (by simp)
              ·rw [if_neg c114] at H
               exact absurd H (by simp)
             ·rw [if_neg c113] at H
              exact absurd H (by simp)
           ·replace c103 := Bool.eq_false_iff.mpr c103
            subst c103
            have H1 : (if t295 = 130 then (some (t291 == 0 && (t292.toList == ([] : List UInt8) && (t293 == 0 && (t294.toList == ([] : List UInt8)))))) else (none)) = some r := by rw [if_neg (show ¬ (false = true) by decide)] at H; exact H
            clear H
            have H := H1
            clear H1
            by_cases c129 : t295 = 130
            ·rw [if_pos c129] at H
             have c129b0 : (t295 == 130) = true := beq_iff_eq.mpr c129
             have c129b1 : (t295 != 130) = false := bne_eq_false_iff_eq.mpr c129
             clear c129
             obtain rfl := Option.some.inj H
             have hnb130 := NB279_290.out
             have hnc130 := NB290_279.out
             have hnb131 := NB279_296.out
             have hnc131 := NB296_279.out
             have hcz132_0 : wc.cell? ⟨gb279, 0, none⟩ = some (.int .i64 a0_0) := (blk_cell BK279.out 0).trans rfl
             have hcz132_1 : wc.cell? ⟨gb279, 1, none⟩ = some (.string a0_1) := (blk_cell BK279.out 1).trans rfl
             have hcz132_2 : wc.cell? ⟨gb279, 2, none⟩ = some (.int .i64 a0_2) := (blk_cell BK279.out 2).trans rfl
             have hcz132_3 : wc.cell? ⟨gb279, 3, none⟩ = some (.string a0_3) := (blk_cell BK279.out 3).trans rfl
             have hfz132_0 := blk_frozen BK279.out 0
             have hfz132_1 := blk_frozen BK279.out 1
             have hfz132_2 := blk_frozen BK279.out 2
             have hfz132_3 := blk_frozen BK279.out 3
             go_wp2_with (first | ((with_reducible refine gate_callee (f := 17) rfl ?_); refine goesL_ (some 110) rfl rfl Try.func17 (by kernel_rfl) rfl #[.agg #[.int .i64 a0_0, .string a0_1, .int .i64 a0_2, .string a0_3]] rfl (by (try simp only [List.map_toArray, List.map_cons, List.map_nil]); first | done | rfl | (simp only [List.length_drop, List.length_take]; rfl)) ?_; (with_reducible refine (caulkerlaw10_plain.calls kj92 a0_0 a0_1 a0_2 a0_3 false _ A102.out).mono ?_); rintro e w133 ⟨rfl, hb⟩; refine ⟨_, rfl, ?_⟩; replace BK279 := pxk BK279 hb; replace BK290 := pxk BK290 hb; replace BK296 := pxk BK296 hb; replace HB := pxs HB hb; (try clear hb); (try clear hb2); (try clear hk); (try clear hi); have hnb134 := NB296_290.out; have hnc134 := NB290_296.out; obtain ⟨hcz135_0, hcz135_1, hcz135_2, hcz135_3, hfz135_0, hfz135_1, hfz135_2, hfz135_3⟩ := pxf4 BK296))
             go_ret
             exact ⟨by first | rfl | (simp [errW_none, errW_some] <;> rfl) | (simp [*, errW_none, errW_some] <;> rfl) | (simp [*, pxbeq, pxbne, errW_none, errW_some]; done), pxb HB⟩
            ·rw [if_neg c129] at H
             exact absurd H (by simp)
       ·rw [if_neg c92] at H
        have c92b0 : (a0_2 == 4) = false := beq_eq_false_iff_ne.mpr c92
        have c92b1 : (a0_2 != 4) = true := bne_iff_ne.mpr c92
        replace H := Option.bind_eq_some_iff.mp H
        obtain ⟨⟨t303, t304, t305, t306, t307⟩, A1360, H⟩ := H
        replace H : (if t289 = 0 then (if t307 = 0 then (if (!(t303 == a0_0) || (!(t304.toList == a0_1.toList) || (!(t305 == a0_2) || (!(t306.toList == a0_3.toList))))) = true then (caulkerlaw10_KindArrays.j3 kj9 t295 true a0_0 a0_1 a0_2 a0_3 t291 t292 t293 t294) else (if a0_3.size + 1 ≤ 9223372036854775807 then (if t288.toList = (a0_3 ++ (⟨#[32]⟩ : ByteArray)).toList then ((kind_Outer.f kj9 t285 t286 t287 t288).bind fun t309 => (caulkerlaw10_KindArrays.j3 kj9 t295 (t309 != 32) a0_0 a0_1 a0_2 a0_3 t291 t292 t293 t294)) else (caulkerlaw10_KindArrays.j3 kj9 t295 true a0_0 a0_1 a0_2 a0_3 t291 t292 t293 t294)) else (none))) else (caulkerlaw10_KindArrays.j3 kj9 t295 true a0_0 a0_1 a0_2 a0_3 t291 t292 t293 t294)) else (caulkerlaw10_KindArrays.j3 kj9 t295 true a0_0 a0_1 a0_2 a0_3 t291 t292 t293 t294)) = some r := H
        have A136 := Aside0.mk A1360
        clear A1360
        have HC137 := Aside0.mk H
        clear H
        have hnb138 := NB279_290.out
        have hnc138 := NB290_279.out
        have hnb139 := NB279_296.out
        have hnc139 := NB296_279.out
        have hcz140_0 : wc.cell? ⟨gb279, 0, none⟩ = some (.int .i64 a0_0) := (blk_cell BK279.out 0).trans rfl
        have hcz140_1 : wc.cell? ⟨gb279, 1, none⟩ = some (.string a0_1) := (blk_cell BK279.out 1).trans rfl
        have hcz140_2 : wc.cell? ⟨gb279, 2, none⟩ = some (.int .i64 a0_2) := (blk_cell BK279.out 2).trans rfl
        have hcz140_3 : wc.cell? ⟨gb279, 3, none⟩ = some (.string a0_3) := (blk_cell BK279.out 3).trans rfl
        have hfz140_0 := blk_frozen BK279.out 0
        have hfz140_1 := blk_frozen BK279.out 1
        have hfz140_2 := blk_frozen BK279.out 2
        have hfz140_3 := blk_frozen BK279.out 3
        have hnb141 := NB290_296.out
        have hnc141 := NB296_290.out
        have hcz142_0 : wc.cell? ⟨gb290, 0, none⟩ = some (.int .i64 t285) := (blk_cell BK290.out 0).trans rfl
        have hcz142_1 : wc.cell? ⟨gb290, 1, none⟩ = some (.string t286) := (blk_cell BK290.out 1).trans rfl
        have hcz142_2 : wc.cell? ⟨gb290, 2, none⟩ = some (.int .i64 t287) := (blk_cell BK290.out 2).trans rfl
        have hcz142_3 : wc.cell? ⟨gb290, 3, none⟩ = some (.string t288) := (blk_cell BK290.out 3).trans rfl
        have hfz142_0 := blk_frozen BK290.out 0
        have hfz142_1 := blk_frozen BK290.out 1
        have hfz142_2 := blk_frozen BK290.out 2
        have hfz142_3 := blk_frozen BK290.out 3
        go_upto_region 10 with (first | ((with_reducible refine gate_callee (f := 20) rfl ?_); refine goesL_ (some 47) rfl rfl Try.func20 (by kernel_rfl) rfl #[.agg #[.int .i64 t285, .string t286, .int .i64 t287, .string t288]] rfl (by (try simp only [List.map_toArray, List.map_cons, List.map_nil]); first | done | rfl | (simp only [List.length_drop, List.length_take]; rfl)) ?_; (with_reducible refine (kind_Elem.calls kj9 t285 t286 t287 t288 t303 t304 t305 t306 t307 _ A136.out).mono ?_); rintro e w143 ⟨rfl, hb⟩; refine ⟨_, rfl, ?_⟩; replace BK279 := pxk BK279 hb; replace BK290 := pxk BK290 hb; replace BK296 := pxk BK296 hb; replace HB := pxs HB hb; (try clear hb); (try clear hb2); (try clear hk); (try clear hi)) | ((with_reducible refine gate_dst (N := 7) rfl ?_); refine box_event ?hg (N := 7) ?hd (cs := #[.int .i64 0, .string (⟨#[]⟩ : ByteArray), .int .i64 0, .string (⟨#[]⟩ : ByteArray)]) (t := 23) ?hr ?_; (case hd => rfl); (case hg => rfl); (case hr => first | (go_simp; done) | (go_simp; rfl)); intro gb308 hg w144 hbox hb; have BK308 := Aside0.mk (hbox); have GW308 := pxw HB hg; have GE308 := pxw HB hg; have NB279_308 := pxn BK279 hg; have NB308_279 := Aside0.mk (pxn BK279 hg).out.symm; have NB290_308 := pxn BK290 hg; have NB308_290 := Aside0.mk (pxn BK290 hg).out.symm; have NB296_308 := pxn BK296 hg; have NB308_296 := Aside0.mk (pxn BK296 hg).out.symm; replace BK279 := pxk BK279 hb; replace BK290 := pxk BK290 hb; replace BK296 := pxk BK296 hb; replace HB := pxs HB hb; clear hb hbox hg; have hnb145 := NB308_279.out; have hnc145 := NB279_308.out; have hnb146 := NB308_290.out; have hnc146 := NB290_308.out; have hnb147 := NB308_296.out; have hnc147 := NB296_308.out; obtain ⟨hcz148_0, hcz148_1, hcz148_2, hcz148_3, hfz148_0, hfz148_1, hfz148_2, hfz148_3⟩ := pxf4 BK308))
        (try simp only [Act.put, List.setIfInBounds_toArray, List.set_cons_zero, List.set_cons_succ])
        go_cut [73] (fun v73 wc => ∃ (kq : Nat) (x73_136 : Bool), v73 = .bool x73_136 ∧ Aside0 (caulkerlaw10_KindArrays.j3 kq t295 x73_136 a0_0 a0_1 a0_2 a0_3 t291 t292 t293 t294 = some r) ∧ Aside0 (kq ≤ kj9) ∧ Aside0 (wc.heap[gb279]? = some (.cells #[.int .i64 a0_0, .string a0_1, .int .i64 a0_2, .string a0_3] 23 (0, 0))) ∧ Aside0 (wc.heap[gb290]? = some (.cells #[.int .i64 t285, .string t286, .int .i64 t287, .string t288] 23 (0, 0))) ∧ Aside0 (wc.heap[gb296]? = some (.cells #[.int .i64 t291, .string t292, .int .i64 t293, .string t294] 23 (0, 0))) ∧ Aside0 (wc.heap[gb308]? = some (.cells #[.int .i64 t303, .string t304, .int .i64 t305, .string t306] 23 (0, 0))) ∧ Aside0 (Below w.heap.size w wc))
        case first =>
         have H := HC137.out
         clear HC137
         by_cases c149 : t289 = 0
         ·rw [if_pos c149] at H
          have c149b0 : (t289 == 0) = true := beq_iff_eq.mpr c149
          have c149b1 : (t289 != 0) = false := bne_eq_false_iff_eq.mpr c149
          clear c149
          (first | rw [c149b0] | (simp only [i64_w, i32_w]; rw [c149b0]) | skip)
          by_cases c150 : t307 = 0
          ·rw [if_pos c150] at H
           have c150b0 : (t307 == 0) = true := beq_iff_eq.mpr c150
           have c150b1 : (t307 != 0) = false := bne_eq_false_iff_eq.mpr c150
           clear c150
           by_cases c151 : (!(t303 == a0_0) || (!(t304.toList == a0_1.toList) || (!(t305 == a0_2) || (!(t306.toList == a0_3.toList))))) = true
           ·rw [if_pos c151] at H
            have c151b0 : (!(t303 == a0_0) || (!(t304.toList == a0_1.toList) || (!(t305 == a0_2) || (!(t306.toList == a0_3.toList))))) = true := c151
            clear c151
            have H' := Aside0.mk H
            clear H
            have hnb152 := NB308_279.out
            have hnc152 := NB279_308.out
            have hnb153 := NB308_290.out
            have hnc153 := NB290_308.out
            have hnb154 := NB308_296.out
            have hnc154 := NB296_308.out
            have hcz155_0 : w144.cell? ⟨gb308, 0, none⟩ = some (.int .i64 0) := (blk_cell BK308.out 0).trans rfl
            have hcz155_1 : w144.cell? ⟨gb308, 1, none⟩ = some (.string (⟨#[]⟩ : ByteArray)) := (blk_cell BK308.out 1).trans rfl
            have hcz155_2 : w144.cell? ⟨gb308, 2, none⟩ = some (.int .i64 0) := (blk_cell BK308.out 2).trans rfl
            have hcz155_3 : w144.cell? ⟨gb308, 3, none⟩ = some (.string (⟨#[]⟩ : ByteArray)) := (blk_cell BK308.out 3).trans rfl
            have hfz155_0 := blk_frozen BK308.out 0
            have hfz155_1 := blk_frozen BK308.out 1
            have hfz155_2 := blk_frozen BK308.out 2
            have hfz155_3 := blk_frozen BK308.out 3
            have hnb156 := NB279_290.out
            have hnc156 := NB290_279.out
            have hnb157 := NB279_296.out
            have hnc157 := NB296_279.out
            have hcz158_0 : w144.cell? ⟨gb279, 0, none⟩ = some (.int .i64 a0_0) := (blk_cell BK279.out 0).trans rfl
            have hcz158_1 : w144.cell? ⟨gb279, 1, none⟩ = some (.string a0_1) := (blk_cell BK279.out 1).trans rfl
            have hcz158_2 : w144.cell? ⟨gb279, 2, none⟩ = some (.int .i64 a0_2) := (blk_cell BK279.out 2).trans rfl
            have hcz158_3 : w144.cell? ⟨gb279, 3, none⟩ = some (.string a0_3) := (blk_cell BK279.out 3).trans rfl
            have hfz158_0 := blk_frozen BK279.out 0
            have hfz158_1 := blk_frozen BK279.out 1
            have hfz158_2 := blk_frozen BK279.out 2
            have hfz158_3 := blk_frozen BK279.out 3
            go_wp2
            go_meet
            case rel => exact ⟨_, (true), (by first | rfl | (simp; done) | (simp [*]; done)), H', ⟨by have := HJ9.out; first | omega | exact Nat.le_refl _⟩, ⟨pxp BK279⟩, ⟨pxp BK290⟩, ⟨pxp BK296⟩, ⟨pxp BK308⟩, ⟨pxb HB⟩⟩
           ·rw [if_neg c151] at H
            have c151b0 : (!(t303 == a0_0) || (!(t304.toList == a0_1.toList) || (!(t305 == a0_2) || (!(t306.toList == a0_3.toList))))) = false := by simpa using c151
            clear c151
            by_cases c159 : a0_3.size + 1 ≤ 9223372036854775807
            ·rw [if_pos c159] at H
             have c159b0 := eq_true c159
             have c159b1 : decide (a0_3.size + 1 ≤ 9223372036854775807) = true := decide_eq_true c159
             try have c159b2 : (9223372036854775807 < a0_3.size + 1) = False := eq_false (Nat.not_lt.2 c159)
             by_cases c160 : t288.toList = (a0_3 ++ (⟨#[32]⟩ : ByteArray)).toList
             ·rw [if_pos c160] at H
              have c160b0 : (t288.toList == (a0_3 ++ (⟨#[32]⟩ : ByteArray)).toList) = true := beq_iff_eq.mpr c160
              have c160b1 : (t288.toList != (a0_3 ++ (⟨#[32]⟩ : ByteArray)).toList) = false := bne_eq_false_iff_eq.mpr c160
              clear c160
              replace H := Option.bind_eq_some_iff.mp H
              obtain ⟨t309, A1610, H⟩ := H
              replace H : (caulkerlaw10_KindArrays.j3 kj9 t295 (t309 != 32) a0_0 a0_1 a0_2 a0_3 t291 t292 t293 t294) = some r := H
              have A161 := Aside0.mk A1610
              clear A1610
              have H' := Aside0.mk H
              clear H
              have hnb162 := NB308_279.out
              have hnc162 := NB279_308.out
              have hnb163 := NB308_290.out
              have hnc163 := NB290_308.out
              have hnb164 := NB308_296.out
              have hnc164 := NB296_308.out
              have hcz165_0 : w144.cell? ⟨gb308, 0, none⟩ = some (.int .i64 0) := (blk_cell BK308.out 0).trans rfl
              have hcz165_1 : w144.cell? ⟨gb308, 1, none⟩ = some (.string (⟨#[]⟩ : ByteArray)) := (blk_cell BK308.out 1).trans rfl
              have hcz165_2 : w144.cell? ⟨gb308, 2, none⟩ = some (.int .i64 0) := (blk_cell BK308.out 2).trans rfl
              have hcz165_3 : w144.cell? ⟨gb308, 3, none⟩ = some (.string (⟨#[]⟩ : ByteArray)) := (blk_cell BK308.out 3).trans rfl
              have hfz165_0 := blk_frozen BK308.out 0
              have hfz165_1 := blk_frozen BK308.out 1
              have hfz165_2 := blk_frozen BK308.out 2
              have hfz165_3 := blk_frozen BK308.out 3
              have hnb166 := NB279_290.out
              have hnc166 := NB290_279.out
              have hnb167 := NB279_296.out
              have hnc167 := NB296_279.out
              have hcz168_0 : w144.cell? ⟨gb279, 0, none⟩ = some (.int .i64 a0_0) := (blk_cell BK279.out 0).trans rfl
              have hcz168_1 : w144.cell? ⟨gb279, 1, none⟩ = some (.string a0_1) := (blk_cell BK279.out 1).trans rfl
              have hcz168_2 : w144.cell? ⟨gb279, 2, none⟩ = some (.int .i64 a0_2) := (blk_cell BK279.out 2).trans rfl
              have hcz168_3 : w144.cell? ⟨gb279, 3, none⟩ = some (.string a0_3) := (blk_cell BK279.out 3).trans rfl
              have hfz168_0 := blk_frozen BK279.out 0
              have hfz168_1 := blk_frozen BK279.out 1
              have hfz168_2 := blk_frozen BK279.out 2
              have hfz168_3 := blk_frozen BK279.out 3
              have hnb169 := NB290_296.out
              have hnc169 := NB296_290.out
              have hcz170_0 : w144.cell? ⟨gb290, 0, none⟩ = some (.int .i64 t285) := (blk_cell BK290.out 0).trans rfl
              have hcz170_1 : w144.cell? ⟨gb290, 1, none⟩ = some (.string t286) := (blk_cell BK290.out 1).trans rfl
              have hcz170_2 : w144.cell? ⟨gb290, 2, none⟩ = some (.int .i64 t287) := (blk_cell BK290.out 2).trans rfl
              have hcz170_3 : w144.cell? ⟨gb290, 3, none⟩ = some (.string t288) := (blk_cell BK290.out 3).trans rfl
              have hfz170_0 := blk_frozen BK290.out 0
              have hfz170_1 := blk_frozen BK290.out 1
              have hfz170_2 := blk_frozen BK290.out 2
              have hfz170_3 := blk_frozen BK290.out 3
              go_wp2_with (first | (go_at_call 21; (with_reducible refine (kind_Outer.calls kj9 t285 t286 t287 t288 t309 _ A161.out).mono ?_); rintro e w171 ⟨rfl, hb⟩; replace BK279 := Aside0.mk (blk_below (g := gb279) (o := .cells #[.int .i64 a0_0, .string a0_1, .int .i64 a0_2, .string a0_3] 23 (0, 0)) (pxp BK279) hb); replace BK290 := Aside0.mk (blk_below (g := gb290) (o := .cells #[.int .i64 t285, .string t286, .int .i64 t287, .string t288] 23 (0, 0)) (pxp BK290) hb); replace BK296 := Aside0.mk (blk_below (g := gb296) (o := .cells #[.int .i64 t291, .string t292, .int .i64 t293, .string t294] 23 (0, 0)) (pxp BK296) hb); replace BK308 := Aside0.mk (blk_below (g := gb308) (o := .cells #[.int .i64 t303, .string t304, .int .i64 t305, .string t306] 23 (0, 0)) (pxp BK308) hb); replace HB := pxs HB hb; (try clear hb); (try clear hb2); (try clear hk); (try clear hi)))
              go_meet
              case rel => exact ⟨_, ((t309 != 32)), (by first | rfl | (simp; done) | (simp [*]; done)), H', ⟨by have := HJ9.out; first | omega | exact Nat.le_refl _⟩, ⟨pxq BK279⟩, ⟨pxq BK290⟩, ⟨pxq BK296⟩, ⟨pxq BK308⟩, ⟨pxb HB⟩⟩
             ·rw [if_neg c160] at H
              have c160b0 : (t288.toList == (a0_3 ++ (⟨#[32]⟩ : ByteArray)).toList) = false := beq_eq_false_iff_ne.mpr c160
              have c160b1 : (t288.toList != (a0_3 ++ (⟨#[32]⟩ : ByteArray)).toList) = true := bne_iff_ne.mpr c160
              have H' := Aside0.mk H
              clear H
              have hnb172 := NB308_279.out
              have hnc172 := NB279_308.out
              have hnb173 := NB308_290.out
              have hnc173 := NB290_308.out
              have hnb174 := NB308_296.out
              have hnc174 := NB296_308.out
              have hcz175_0 : w144.cell? ⟨gb308, 0, none⟩ = some (.int .i64 0) := (blk_cell BK308.out 0).trans rfl
              have hcz175_1 : w144.cell? ⟨gb308, 1, none⟩ = some (.string (⟨#[]⟩ : ByteArray)) := (blk_cell BK308.out 1).trans rfl
              have hcz175_2 : w144.cell? ⟨gb308, 2, none⟩ = some (.int .i64 0) := (blk_cell BK308.out 2).trans rfl
              have hcz175_3 : w144.cell? ⟨gb308, 3, none⟩ = some (.string (⟨#[]⟩ : ByteArray)) := (blk_cell BK308.out 3).trans rfl
              have hfz175_0 := blk_frozen BK308.out 0
              have hfz175_1 := blk_frozen BK308.out 1
              have hfz175_2 := blk_frozen BK308.out 2
              have hfz175_3 := blk_frozen BK308.out 3
              have hnb176 := NB279_290.out
              have hnc176 := NB290_279.out
              have hnb177 := NB279_296.out
              have hnc177 := NB296_279.out
              have hcz178_0 : w144.cell? ⟨gb279, 0, none⟩ = some (.int .i64 a0_0) := (blk_cell BK279.out 0).trans rfl
              have hcz178_1 : w144.cell? ⟨gb279, 1, none⟩ = some (.string a0_1) := (blk_cell BK279.out 1).trans rfl
              have hcz178_2 : w144.cell? ⟨gb279, 2, none⟩ = some (.int .i64 a0_2) := (blk_cell BK279.out 2).trans rfl
              have hcz178_3 : w144.cell? ⟨gb279, 3, none⟩ = some (.string a0_3) := (blk_cell BK279.out 3).trans rfl
              have hfz178_0 := blk_frozen BK279.out 0
              have hfz178_1 := blk_frozen BK279.out 1
              have hfz178_2 := blk_frozen BK279.out 2
              have hfz178_3 := blk_frozen BK279.out 3
              have hnb179 := NB290_296.out
              have hnc179 := NB296_290.out
              have hcz180_0 : w144.cell? ⟨gb290, 0, none⟩ = some (.int .i64 t285) := (blk_cell BK290.out 0).trans rfl
              have hcz180_1 : w144.cell? ⟨gb290, 1, none⟩ = some (.string t286) := (blk_cell BK290.out 1).trans rfl
              have hcz180_2 : w144.cell? ⟨gb290, 2, none⟩ = some (.int .i64 t287) := (blk_cell BK290.out 2).trans rfl
              have hcz180_3 : w144.cell? ⟨gb290, 3, none⟩ = some (.string t288) := (blk_cell BK290.out 3).trans rfl
              have hfz180_0 := blk_frozen BK290.out 0
              have hfz180_1 := blk_frozen BK290.out 1
              have hfz180_2 := blk_frozen BK290.out 2
              have hfz180_3 := blk_frozen BK290.out 3
              go_wp2
              go_meet
              case rel => exact ⟨_, (true), (by first | rfl | (simp; done) | (simp [*]; done)), H', ⟨by have := HJ9.out; first | omega | exact Nat.le_refl _⟩, ⟨pxp BK279⟩, ⟨pxp BK290⟩, ⟨pxp BK296⟩, ⟨pxp BK308⟩, ⟨pxb HB⟩⟩
            ·rw [if_neg c159] at H
             exact absurd H (by simp)
          ·rw [if_neg c150] at H
           have c150b0 : (t307 == 0) = false := beq_eq_false_iff_ne.mpr c150
           have c150b1 : (t307 != 0) = true := bne_iff_ne.mpr c150
           have H' := Aside0.mk H
           clear H
           go_wp2
           go_meet
           case rel => exact ⟨_, (true), (by first | rfl | (simp; done) | (simp [*]; done)), H', ⟨by have := HJ9.out; first | omega | exact Nat.le_refl _⟩, ⟨pxp BK279⟩, ⟨pxp BK290⟩, ⟨pxp BK296⟩, ⟨pxp BK308⟩, ⟨pxb HB⟩⟩
         ·rw [if_neg c149] at H
          have c149b0 : (t289 == 0) = false := beq_eq_false_iff_ne.mpr c149
          have c149b1 : (t289 != 0) = true := bne_iff_ne.mpr c149
          (first | rw [c149b0] | (simp only [i64_w, i32_w]; rw [c149b0]) | skip)
          have H' := Aside0.mk H
          clear H
          go_wp2
          go_meet
          case rel => exact ⟨_, (true), (by first | rfl | (simp; done) | (simp [*]; done)), H', ⟨by have := HJ9.out; first | omega | exact Nat.le_refl _⟩, ⟨pxp BK279⟩, ⟨pxp BK290⟩, ⟨pxp BK296⟩, ⟨pxp BK308⟩, ⟨pxb HB⟩⟩
        case rest => as_aux_lemma =>
         clear HC137
         (try clear c1); (try clear c2); (try clear p2); (try clear c3); (try clear c4); (try clear p4); (try clear q4); (try clear hx4); (try clear c5); (try clear c6); (try clear p6); (try clear c7); (try clear c8); (try clear c9); (try clear c10); (try clear c11); (try clear c12); (try clear c13); (try clear c14); (try clear c15); (try clear c16); (try clear c17); (try clear c20); (try clear c27); (try clear c32); (try clear c33); (try clear c33b0); (try clear c33b1); (try clear c34); (try clear c35); (try clear c39); (try clear c39b0); (try clear c40); (try clear c40b0); (try clear p41); (try clear q41); (try clear hx41); (try clear c42); (try clear c43); (try clear c47); (try clear c48); (try clear c51); (try clear c53); (try clear c53b0); (try clear c53b1); (try clear c54); (try clear c55); (try clear c57); (try clear c59); (try clear c60); (try clear c60b0); (try clear c60b1); (try clear c61); (try clear c61b0); (try clear c61b1); (try clear c62); (try clear c63); (try clear p64); (try clear c67); (try clear c69); (try clear c69b0); (try clear c69b1); (try clear c70); (try clear c70b0); (try clear c70b1); (try clear c71); (try clear c71b0); (try clear c71b1); (try clear c72); (try clear c73); (try clear c78); (try clear c79); (try clear c80); (try clear c83); (try clear c85); (try clear c85b0); (try clear c85b1); (try clear c86); (try clear c87); (try clear c90); (try clear c92); (try clear c92b0); (try clear c92b1); (try clear c94); (try clear c95); (try clear c97); (try clear c97b0); (try clear c97b1); (try clear c98); (try clear c99); (try clear c101); (try clear c103); (try clear c104); (try clear c104b0); (try clear c104b1); (try clear c105); (try clear c105b0); (try clear c105b1); (try clear c106); (try clear c107); (try clear c111); (try clear c113); (try clear c113b0); (try clear c113b1); (try clear c114); (try clear c114b0); (try clear c114b1); (try clear c115); (try clear c115b0); (try clear c115b1); (try clear c116); (try clear c117); (try clear c122); (try clear c123); (try clear c124); (try clear c127); (try clear c129); (try clear c129b0); (try clear c129b1); (try clear c130); (try clear c131); (try clear c134); (try clear c138); (try clear c139); (try clear c141); (try clear c145); (try clear c146); (try clear c147); (try clear c149); (try clear c149b0); (try clear c149b1); (try clear c150); (try clear c150b0); (try clear c150b1); (try clear c151); (try clear c151b0); (try clear c152); (try clear c153); (try clear c154); (try clear c156); (try clear c157); (try clear c159); (try clear c159b0); (try clear c159b1); (try clear c159b2); (try clear c160); (try clear c160b0); (try clear c160b1); (try clear c162); (try clear c163); (try clear c164); (try clear c166); (try clear c167); (try clear c169); (try clear c172); (try clear c173); (try clear c174); (try clear c176); (try clear c177); (try clear c179); (try clear hcz100_0 hcz100_1 hcz100_2 hcz100_3 hfz100_0 hfz100_1 hfz100_2 hfz100_3); (try clear hcz108_0 hcz108_1 hcz108_2 hcz108_3 hfz108_0 hfz108_1 hfz108_2 hfz108_3); (try clear hcz110_0 hcz110_1 hcz110_2 hcz110_3 hfz110_0 hfz110_1 hfz110_2 hfz110_3); (try clear hcz112_0 hcz112_1 hcz112_2 hcz112_3 hfz112_0 hfz112_1 hfz112_2 hfz112_3); (try clear hcz118_0 hcz118_1 hcz118_2 hcz118_3 hfz118_0 hfz118_1 hfz118_2 hfz118_3); (try clear hcz120_0 hcz120_1 hcz120_2 hcz120_3 hfz120_0 hfz120_1 hfz120_2 hfz120_3); (try clear hcz125_0 hcz125_1 hcz125_2 hcz125_3 hfz125_0 hfz125_1 hfz125_2 hfz125_3); (try clear hcz126_0 hcz126_1 hcz126_2 hcz126_3 hfz126_0 hfz126_1 hfz126_2 hfz126_3); (try clear hcz128_0 hcz128_1 hcz128_2 hcz128_3 hfz128_0 hfz128_1 hfz128_2 hfz128_3); (try clear hcz132_0 hcz132_1 hcz132_2 hcz132_3 hfz132_0 hfz132_1 hfz132_2 hfz132_3); (try clear hcz135_0 hcz135_1 hcz135_2 hcz135_3 hfz135_0 hfz135_1 hfz135_2 hfz135_3); (try clear hcz13_0 hcz13_1 hcz13_2 hcz13_3 hfz13_0 hfz13_1 hfz13_2 hfz13_3); (try clear hcz140_0 hcz140_1 hcz140_2 hcz140_3 hfz140_0 hfz140_1 hfz140_2 hfz140_3); (try clear hcz142_0 hcz142_1 hcz142_2 hcz142_3 hfz142_0 hfz142_1 hfz142_2 hfz142_3); (try clear hcz148_0 hcz148_1 hcz148_2 hcz148_3 hfz148_0 hfz148_1 hfz148_2 hfz148_3); (try clear hcz155_0 hcz155_1 hcz155_2 hcz155_3 hfz155_0 hfz155_1 hfz155_2 hfz155_3); (try clear hcz158_0 hcz158_1 hcz158_2 hcz158_3 hfz158_0 hfz158_1 hfz158_2 hfz158_3); (try clear hcz165_0 hcz165_1 hcz165_2 hcz165_3 hfz165_0 hfz165_1 hfz165_2 hfz165_3); (try clear hcz168_0 hcz168_1 hcz168_2 hcz168_3 hfz168_0 hfz168_1 hfz168_2 hfz168_3); (try clear hcz170_0 hcz170_1 hcz170_2 hcz170_3 hfz170_0 hfz170_1 hfz170_2 hfz170_3); (try clear hcz175_0 hcz175_1 hcz175_2 hcz175_3 hfz175_0 hfz175_1 hfz175_2 hfz175_3); (try clear hcz178_0 hcz178_1 hcz178_2 hcz178_3 hfz178_0 hfz178_1 hfz178_2 hfz178_3); (try clear hcz180_0 hcz180_1 hcz180_2 hcz180_3 hfz180_0 hfz180_1 hfz180_2 hfz180_3); (try clear hcz18_0 hcz18_1 hcz18_2 hcz18_3 hfz18_0 hfz18_1 hfz18_2 hfz18_3); (try clear hcz22_0 hcz22_1 hcz22_2 hcz22_3 hfz22_0 hfz22_1 hfz22_2 hfz22_3); (try clear hcz23_0 hcz23_1 hcz23_2 hcz23_3 hfz23_0 hfz23_1 hfz23_2 hfz23_3); (try clear hcz28_0 hcz28_1 hcz28_2 hcz28_3 hfz28_0 hfz28_1 hfz28_2 hfz28_3); (try clear hcz29_0 hcz29_1 hcz29_2 hcz29_3 hfz29_0 hfz29_1 hfz29_2 hfz29_3); (try clear hcz36_0 hcz36_1 hcz36_2 hcz36_3 hfz36_0 hfz36_1 hfz36_2 hfz36_3); (try clear hcz38_0 hcz38_1 hcz38_2 hcz38_3 hfz38_0 hfz38_1 hfz38_2 hfz38_3); (try clear hcz44_0 hcz44_1 hcz44_2 hcz44_3 hfz44_0 hfz44_1 hfz44_2 hfz44_3); (try clear hcz46_0 hcz46_1 hcz46_2 hcz46_3 hfz46_0 hfz46_1 hfz46_2 hfz46_3); (try clear hcz49_0 hcz49_1 hcz49_2 hcz49_3 hfz49_0 hfz49_1 hfz49_2 hfz49_3); (try clear hcz56_0 hcz56_1 hcz56_2 hcz56_3 hfz56_0 hfz56_1 hfz56_2 hfz56_3); (try clear hcz64_0 hcz64_1 hcz64_2 hcz64_3 hfz64_0 hfz64_1 hfz64_2 hfz64_3); (try clear hcz66_0 hcz66_1 hcz66_2 hcz66_3 hfz66_0 hfz66_1 hfz66_2 hfz66_3); (try clear hcz68_0 hcz68_1 hcz68_2 hcz68_3 hfz68_0 hfz68_1 hfz68_2 hfz68_3); (try clear hcz74_0 hcz74_1 hcz74_2 hcz74_3 hfz74_0 hfz74_1 hfz74_2 hfz74_3); (try clear hcz76_0 hcz76_1 hcz76_2 hcz76_3 hfz76_0 hfz76_1 hfz76_2 hfz76_3); (try clear hcz81_0 hcz81_1 hcz81_2 hcz81_3 hfz81_0 hfz81_1 hfz81_2 hfz81_3); (try clear hcz82_0 hcz82_1 hcz82_2 hcz82_3 hfz82_0 hfz82_1 hfz82_2 hfz82_3); (try clear hcz84_0 hcz84_1 hcz84_2 hcz84_3 hfz84_0 hfz84_1 hfz84_2 hfz84_3); (try clear hcz88_0 hcz88_1 hcz88_2 hcz88_3 hfz88_0 hfz88_1 hfz88_2 hfz88_3); (try clear hcz91_0 hcz91_1 hcz91_2 hcz91_3 hfz91_0 hfz91_1 hfz91_2 hfz91_3); (try clear hcz96_0 hcz96_1 hcz96_2 hcz96_3 hfz96_0 hfz96_1 hfz96_2 hfz96_3)
         obtain ⟨kq, x73_136, rfl, HA, HJ136, BK279, BK290, BK296, BK308, HB⟩ := hcut
         cases kq with
         | zero => exact absurd HA.out (by simp [caulkerlaw10_KindArrays.j3])
         | succ kj136 =>
          have H := HA.out
          clear HA
          simp only [caulkerlaw10_KindArrays.j3] at H
          by_cases c181 : x73_136 = true
          ·subst c181
           have H1 : (none) = some r := by rw [if_pos rfl] at H; exact H
           clear H
           have H := H1
           clear H1
           exact absurd H (by simp)
          ·replace c181 := Bool.eq_false_iff.mpr c181
           subst c181
           have H1 : ((caulkerlaw10_plain.f kj136 a0_0 a0_1 a0_2 a0_3).bind fun t310 => (if t310 = true then (if a0_2 = 0 then (if t295 = 130 then (some (t291 == 0 && (t292.toList == ([] : List UInt8) && (t293 == 0 && (t294.toList == ([] : List UInt8)))))) else (none)) else (if 0 ≤ a0_2 then (if a0_2 ≤ (a0_3.size : Int) then (if t295 = 0 then (some (t291 == a0_0 && (t292.toList == a0_1.toList && (t293 == (wrap64 (a0_2 - 1)) && (t294.toList == ((a0_3.extract 0 (a0_2 : Int).toNat).toList)))))) else (none)) else (none)) else (none))) else (if t295 = 130 then (some (t291 == 0 && (t292.toList == ([] : List UInt8) && (t293 == 0 && (t294.toList == ([] : List UInt8)))))) else (none)))) = some r := by rw [if_neg (show ¬ (false = true) by decide)] at H; exact H
           clear H
           have H := H1
           clear H1
           replace H := Option.bind_eq_some_iff.mp H
           obtain ⟨t310, A1820, H⟩ := H
           replace H : (if t310 = true then (if a0_2 = 0 then (if t295 = 130 then (some (t291 == 0 && (t292.toList == ([] : List UInt8) && (t293 == 0 && (t294.toList == ([] : List UInt8)))))) else (none)) else (if 0 ≤ a0_2 then (if a0_2 ≤ (a0_3.size : Int) then (if t295 = 0 then (some (t291 == a0_0 && (t292.toList == a0_1.toList && (t293 == (wrap64 (a0_2 - 1)) && (t294.toList == ((a0_3.extract 0 (a0_2 : Int).toNat).toList)))))) else (none)) else (none)) else (none))) else (if t295 = 130 then (some (t291 == 0 && (t292.toList == ([] : List UInt8) && (t293 == 0 && (t294.toList == ([] : List UInt8)))))) else (none))) = some r := H
           have A182 := Aside0.mk A1820
           clear A1820
           by_cases c183 : t310 = true
           ·subst c183
            have H1 : (if a0_2 = 0 then (if t295 = 130 then (some (t291 == 0 && (t292.toList == ([] : List UInt8) && (t293 == 0 && (t294.toList == ([] : List UInt8)))))) else (none)) else (if 0 ≤ a0_2 then (if a0_2 ≤ (a0_3.size : Int) then (if t295 = 0 then (some (t291 == a0_0 && (t292.toList == a0_1.toList && (t293 == (wrap64 (a0_2 - 1)) && (t294.toList == ((a0_3.extract 0 (a0_2 : Int).toNat).toList)))))) else (none)) else (none)) else (none))) = some r := by rw [if_pos rfl] at H; exact H
            clear H
            have H := H1
            clear H1
            by_cases c184 : a0_2 = 0
            ·rw [if_pos c184] at H
             have c184b0 : (a0_2 == 0) = true := beq_iff_eq.mpr c184
             have c184b1 : (a0_2 != 0) = false := bne_eq_false_iff_eq.mpr c184
             clear c184
             by_cases c185 : t295 = 130
             ·rw [if_pos c185] at H
              have c185b0 : (t295 == 130) = true := beq_iff_eq.mpr c185
              have c185b1 : (t295 != 130) = false := bne_eq_false_iff_eq.mpr c185
              clear c185
              obtain rfl := Option.some.inj H
              have hnb186 := NB279_290.out
              have hnc186 := NB290_279.out
              have hnb187 := NB279_296.out
              have hnc187 := NB296_279.out
              have hnb188 := NB279_308.out
              have hnc188 := NB308_279.out
              have hcz189_0 : wc.cell? ⟨gb279, 0, none⟩ = some (.int .i64 a0_0) := (blk_cell BK279.out 0).trans rfl
              have hcz189_1 : wc.cell? ⟨gb279, 1, none⟩ = some (.string a0_1) := (blk_cell BK279.out 1).trans rfl
              have hcz189_2 : wc.cell? ⟨gb279, 2, none⟩ = some (.int .i64 a0_2) := (blk_cell BK279.out 2).trans rfl
              have hcz189_3 : wc.cell? ⟨gb279, 3, none⟩ = some (.string a0_3) := (blk_cell BK279.out 3).trans rfl
              have hfz189_0 := blk_frozen BK279.out 0
              have hfz189_1 := blk_frozen BK279.out 1
              have hfz189_2 := blk_frozen BK279.out 2
              have hfz189_3 := blk_frozen BK279.out 3
              go_wp2_with (first | ((with_reducible refine gate_callee (f := 17) rfl ?_); refine goesL_ (some 110) rfl rfl Try.func17 (by kernel_rfl) rfl #[.agg #[.int .i64 a0_0, .string a0_1, .int .i64 a0_2, .string a0_3]] rfl (by (try simp only [List.map_toArray, List.map_cons, List.map_nil]); first | done | rfl | (simp only [List.length_drop, List.length_take]; rfl)) ?_; (with_reducible refine (caulkerlaw10_plain.calls kj136 a0_0 a0_1 a0_2 a0_3 true _ A182.out).mono ?_); rintro e w190 ⟨rfl, hb⟩; refine ⟨_, rfl, ?_⟩; replace BK279 := pxk BK279 hb; replace BK290 := pxk BK290 hb; replace BK296 := pxk BK296 hb; replace BK308 := pxk BK308 hb; replace HB := pxs HB hb; (try clear hb); (try clear hb2); (try clear hk); (try clear hi); obtain ⟨hcz191_0, hcz191_1, hcz191_2, hcz191_3, hfz191_0, hfz191_1, hfz191_2, hfz191_3⟩ := pxf4 BK279; have hnb192 := NB296_290.out; have hnc192 := NB290_296.out; have hnb193 := NB296_308.out; have hnc193 := NB308_296.out; obtain ⟨hcz194_0, hcz194_1, hcz194_2, hcz194_3, hfz194_0, hfz194_1, hfz194_2, hfz194_3⟩ := pxf4 BK296))
              go_ret
              exact ⟨by first | rfl | (simp [errW_none, errW_some] <;> rfl) | (simp [*, errW_none, errW_some] <;> rfl) | (simp [*, pxbeq, pxbne, errW_none, errW_some]; done), pxb HB⟩
             ·rw [if_neg c185] at H
              exact absurd H (by simp)
            ·rw [if_neg c184] at H
             have c184b0 : (a0_2 == 0) = false := beq_eq_false_iff_ne.mpr c184
             have c184b1 : (a0_2 != 0) = true := bne_iff_ne.mpr c184
             by_cases c195 : 0 ≤ a0_2
             ·rw [if_pos c195] at H
              have c195b0 := eq_true c195
              have c195b1 : decide (0 ≤ a0_2) = true := decide_eq_true c195
              clear c195
              by_cases c196 : a0_2 ≤ (a0_3.size : Int)
              ·rw [if_pos c196] at H
               have c196b0 := eq_true c196
               have c196b1 : decide (a0_2 ≤ (a0_3.size : Int)) = true := decide_eq_true c196
               clear c196
               by_cases c197 : t295 = 0
               ·rw [if_pos c197] at H
                have c197b0 : (t295 == 0) = true := beq_iff_eq.mpr c197
                have c197b1 : (t295 != 0) = false := bne_eq_false_iff_eq.mpr c197
                clear c197
                obtain rfl := Option.some.inj H
                have hnb198 := NB279_290.out
                have hnc198 := NB290_279.out
                have hnb199 := NB279_296.out
                have hnc199 := NB296_279.out
                have hnb200 := NB279_308.out
                have hnc200 := NB308_279.out
                have hcz201_0 : wc.cell? ⟨gb279, 0, none⟩ = some (.int .i64 a0_0) := (blk_cell BK279.out 0).trans rfl
                have hcz201_1 : wc.cell? ⟨gb279, 1, none⟩ = some (.string a0_1) := (blk_cell BK279.out 1).trans rfl
                have hcz201_2 : wc.cell? ⟨gb279, 2, none⟩ = some (.int .i64 a0_2) := (blk_cell BK279.out 2).trans rfl
                have hcz201_3 : wc.cell? ⟨gb279, 3, none⟩ = some (.string a0_3) := (blk_cell BK279.out 3).trans rfl
                have hfz201_0 := blk_frozen BK279.out 0
                have hfz201_1 := blk_frozen BK279.out 1
                have hfz201_2 := blk_frozen BK279.out 2
                have hfz201_3 := blk_frozen BK279.out 3
                go_upto_region 21 with (first | ((with_reducible refine gate_callee (f := 17) rfl ?_); refine goesL_ (some 110) rfl rfl Try.func17 (by kernel_rfl) rfl #[.agg #[.int .i64 a0_0, .string a0_1, .int .i64 a0_2, .string a0_3]] rfl (by (try simp only [List.map_toArray, List.map_cons, List.map_nil]); first | done | rfl | (simp only [List.length_drop, List.length_take]; rfl)) ?_; (with_reducible refine (caulkerlaw10_plain.calls kj136 a0_0 a0_1 a0_2 a0_3 true _ A182.out).mono ?_); rintro e w202 ⟨rfl, hb⟩; refine ⟨_, rfl, ?_⟩; replace BK279 := pxk BK279 hb; replace BK290 := pxk BK290 hb; replace BK296 := pxk BK296 hb; replace BK308 := pxk BK308 hb; replace HB := pxs HB hb; (try clear hb); (try clear hb2); (try clear hk); (try clear hi); obtain ⟨hcz203_0, hcz203_1, hcz203_2, hcz203_3, hfz203_0, hfz203_1, hfz203_2, hfz203_3⟩ := pxf4 BK279) | ((with_reducible refine gate_dst (N := 9) rfl ?_); refine box_event ?hg (N := 9) ?hd (cs := #[.int .i64 0, .string (⟨#[]⟩ : ByteArray), .int .i64 0, .string (⟨#[]⟩ : ByteArray)]) (t := 23) ?hr ?_; (case hd => rfl); (case hg => rfl); (case hr => first | (go_simp; done) | (go_simp; rfl)); intro gb311 hg w204 hbox hb; have BK311 := Aside0.mk (hbox); have GW311 := pxw HB hg; have GE311 := pxw HB hg; have NB279_311 := pxn BK279 hg; have NB311_279 := Aside0.mk (pxn BK279 hg).out.symm; have NB290_311 := pxn BK290 hg; have NB311_290 := Aside0.mk (pxn BK290 hg).out.symm; have NB296_311 := pxn BK296 hg; have NB311_296 := Aside0.mk (pxn BK296 hg).out.symm; have NB308_311 := pxn BK308 hg; have NB311_308 := Aside0.mk (pxn BK308 hg).out.symm; replace BK279 := pxk BK279 hb; replace BK290 := pxk BK290 hb; replace BK296 := pxk BK296 hb; replace BK308 := pxk BK308 hb; replace HB := pxs HB hb; clear hb hbox hg; have hnb205 := NB311_279.out; have hnc205 := NB279_311.out; have hnb206 := NB311_290.out; have hnc206 := NB290_311.out; have hnb207 := NB311_296.out; have hnc207 := NB296_311.out; have hnb208 := NB311_308.out; have hnc208 := NB308_311.out; obtain ⟨hcz209_0, hcz209_1, hcz209_2, hcz209_3, hfz209_0, hfz209_1, hfz209_2, hfz209_3⟩ := pxf4 BK311; obtain ⟨hcz210_0, hcz210_1, hcz210_2, hcz210_3, hfz210_0, hfz210_1, hfz210_2, hfz210_3⟩ := pxf4 BK279; have hnb211 := NB296_290.out; have hnc211 := NB290_296.out; have hnb212 := NB296_308.out; have hnc212 := NB308_296.out; obtain ⟨hcz213_0, hcz213_1, hcz213_2, hcz213_3, hfz213_0, hfz213_1, hfz213_2, hfz213_3⟩ := pxf4 BK296))
                refine caulkerlaw10_KindArrays.told (fun wq1 => wq1.heap[gb311]? = some (.cells #[.int .i64 a0_0, .string a0_1, .int .i64 a0_2, .string a0_3] 23 (0, 0)) ∧ wq1.heap[gb279]? = some (.cells #[.int .i64 a0_0, .string a0_1, .int .i64 a0_2, .string a0_3] 23 (0, 0)) ∧ wq1.heap[gb290]? = some (.cells #[.int .i64 t285, .string t286, .int .i64 t287, .string t288] 23 (0, 0)) ∧ wq1.heap[gb296]? = some (.cells #[.int .i64 t291, .string t292, .int .i64 t293, .string t294] 23 (0, 0)) ∧ wq1.heap[gb308]? = some (.cells #[.int .i64 t303, .string t304, .int .i64 t305, .string t306] 23 (0, 0)) ∧ Below w.heap.size w wq1) ⟨pxp BK311, pxp BK279, pxp BK290, pxp BK296, pxp BK308, pxb HB⟩ ?_
                rintro wq1 ⟨kq0, kq1, kq2, kq3, kq4, bq⟩
                replace BK311 := Aside0.mk kq0; replace BK279 := Aside0.mk kq1; replace BK290 := Aside0.mk kq2; replace BK296 := Aside0.mk kq3; replace BK308 := Aside0.mk kq4; replace HB := Aside0.mk bq
                obtain ⟨hy1_311_0, hy1_311_1, hy1_311_2, hy1_311_3, hv1_311_0, hv1_311_1, hv1_311_2, hv1_311_3⟩ := pxf4 BK311
                obtain ⟨hy1_279_0, hy1_279_1, hy1_279_2, hy1_279_3, hv1_279_0, hv1_279_1, hv1_279_2, hv1_279_3⟩ := pxf4 BK279
                obtain ⟨hy1_290_0, hy1_290_1, hy1_290_2, hy1_290_3, hv1_290_0, hv1_290_1, hv1_290_2, hv1_290_3⟩ := pxf4 BK290
                obtain ⟨hy1_296_0, hy1_296_1, hy1_296_2, hy1_296_3, hv1_296_0, hv1_296_1, hv1_296_2, hv1_296_3⟩ := pxf4 BK296
                obtain ⟨hy1_308_0, hy1_308_1, hy1_308_2, hy1_308_3, hv1_308_0, hv1_308_1, hv1_308_2, hv1_308_3⟩ := pxf4 BK308
                go_upto_region 22 with (fail)
                refine caulkerlaw10_KindArrays.told (fun wq2 => wq2.heap[gb311]? = some (.cells #[.int .i64 a0_0, .string a0_1, .int .i64 (wrap64 (a0_2 - 1)), .string a0_3] 23 (0, 0)) ∧ wq2.heap[gb279]? = some (.cells #[.int .i64 a0_0, .string a0_1, .int .i64 a0_2, .string a0_3] 23 (0, 0)) ∧ wq2.heap[gb290]? = some (.cells #[.int .i64 t285, .string t286, .int .i64 t287, .string t288] 23 (0, 0)) ∧ wq2.heap[gb296]? = some (.cells #[.int .i64 t291, .string t292, .int .i64 t293, .string t294] 23 (0, 0)) ∧ wq2.heap[gb308]? = some (.cells #[.int .i64 t303, .string t304, .int .i64 t305, .string t306] 23 (0, 0)) ∧ Below w.heap.size w wq2) ⟨pxp BK311, pxp BK279, pxp BK290, pxp BK296, pxp BK308, pxb HB⟩ ?_
                rintro wq2 ⟨kq0, kq1, kq2, kq3, kq4, bq⟩
                replace BK311 := Aside0.mk kq0; replace BK279 := Aside0.mk kq1; replace BK290 := Aside0.mk kq2; replace BK296 := Aside0.mk kq3; replace BK308 := Aside0.mk kq4; replace HB := Aside0.mk bq
                obtain ⟨hy2_311_0, hy2_311_1, hy2_311_2, hy2_311_3, hv2_311_0, hv2_311_1, hv2_311_2, hv2_311_3⟩ := pxf4 BK311
                obtain ⟨hy2_279_0, hy2_279_1, hy2_279_2, hy2_279_3, hv2_279_0, hv2_279_1, hv2_279_2, hv2_279_3⟩ := pxf4 BK279
                obtain ⟨hy2_290_0, hy2_290_1, hy2_290_2, hy2_290_3, hv2_290_0, hv2_290_1, hv2_290_2, hv2_290_3⟩ := pxf4 BK290
                obtain ⟨hy2_296_0, hy2_296_1, hy2_296_2, hy2_296_3, hv2_296_0, hv2_296_1, hv2_296_2, hv2_296_3⟩ := pxf4 BK296
                obtain ⟨hy2_308_0, hy2_308_1, hy2_308_2, hy2_308_3, hv2_308_0, hv2_308_1, hv2_308_2, hv2_308_3⟩ := pxf4 BK308
                go_upto_region 23 with (fail)
                refine caulkerlaw10_KindArrays.told (fun wq3 => wq3.heap[gb311]? = some (.cells #[.int .i64 a0_0, .string a0_1, .int .i64 (wrap64 (a0_2 - 1)), .string (a0_3.extract 0 a0_2.toNat)] 23 (0, 0)) ∧ wq3.heap[gb279]? = some (.cells #[.int .i64 a0_0, .string a0_1, .int .i64 a0_2, .string a0_3] 23 (0, 0)) ∧ wq3.heap[gb290]? = some (.cells #[.int .i64 t285, .string t286, .int .i64 t287, .string t288] 23 (0, 0)) ∧ wq3.heap[gb296]? = some (.cells #[.int .i64 t291, .string t292, .int .i64 t293, .string t294] 23 (0, 0)) ∧ wq3.heap[gb308]? = some (.cells #[.int .i64 t303, .string t304, .int .i64 t305, .string t306] 23 (0, 0)) ∧ Below w.heap.size w wq3) ⟨pxp BK311, pxp BK279, pxp BK290, pxp BK296, pxp BK308, pxb HB⟩ ?_
                rintro wq3 ⟨kq0, kq1, kq2, kq3, kq4, bq⟩
                replace BK311 := Aside0.mk kq0; replace BK279 := Aside0.mk kq1; replace BK290 := Aside0.mk kq2; replace BK296 := Aside0.mk kq3; replace BK308 := Aside0.mk kq4; replace HB := Aside0.mk bq
                obtain ⟨hy3_311_0, hy3_311_1, hy3_311_2, hy3_311_3, hv3_311_0, hv3_311_1, hv3_311_2, hv3_311_3⟩ := pxf4 BK311
                obtain ⟨hy3_279_0, hy3_279_1, hy3_279_2, hy3_279_3, hv3_279_0, hv3_279_1, hv3_279_2, hv3_279_3⟩ := pxf4 BK279
                obtain ⟨hy3_290_0, hy3_290_1, hy3_290_2, hy3_290_3, hv3_290_0, hv3_290_1, hv3_290_2, hv3_290_3⟩ := pxf4 BK290
                obtain ⟨hy3_296_0, hy3_296_1, hy3_296_2, hy3_296_3, hv3_296_0, hv3_296_1, hv3_296_2, hv3_296_3⟩ := pxf4 BK296
                obtain ⟨hy3_308_0, hy3_308_1, hy3_308_2, hy3_308_3, hv3_308_0, hv3_308_1, hv3_308_2, hv3_308_3⟩ := pxf4 BK308
                go_wp2
                go_ret
                exact ⟨by first | rfl | (simp [errW_none, errW_some] <;> rfl) | (simp [*, errW_none, errW_some] <;> rfl) | (simp [*, pxbeq, pxbne, errW_none, errW_some]; done), pxb HB⟩
               ·rw [if_neg c197] at H
                exact absurd H (by simp)
              ·rw [if_neg c196] at H
               exact absurd H (by simp)
             ·rw [if_neg c195] at H
              exact absurd H (by simp)
           ·replace c183 := Bool.eq_false_iff.mpr c183
            subst c183
            have H1 : (if t295 = 130 then (some (t291 == 0 && (t292.toList == ([] : List UInt8) && (t293 == 0 && (t294.toList == ([] : List UInt8)))))) else (none)) = some r := by rw [if_neg (show ¬ (false = true) by decide)] at H; exact H
            clear H
            have H := H1
            clear H1
            by_cases c214 : t295 = 130
            ·rw [if_pos c214] at H
             have c214b0 : (t295 == 130) = true := beq_iff_eq.mpr c214
             have c214b1 : (t295 != 130) = false := bne_eq_false_iff_eq.mpr c214
             clear c214
             obtain rfl := Option.some.inj H
             have hnb215 := NB279_290.out
             have hnc215 := NB290_279.out
             have hnb216 := NB279_296.out
             have hnc216 := NB296_279.out
             have hnb217 := NB279_308.out
             have hnc217 := NB308_279.out
             have hcz218_0 : wc.cell? ⟨gb279, 0, none⟩ = some (.int .i64 a0_0) := (blk_cell BK279.out 0).trans rfl
             have hcz218_1 : wc.cell? ⟨gb279, 1, none⟩ = some (.string a0_1) := (blk_cell BK279.out 1).trans rfl
             have hcz218_2 : wc.cell? ⟨gb279, 2, none⟩ = some (.int .i64 a0_2) := (blk_cell BK279.out 2).trans rfl
             have hcz218_3 : wc.cell? ⟨gb279, 3, none⟩ = some (.string a0_3) := (blk_cell BK279.out 3).trans rfl
             have hfz218_0 := blk_frozen BK279.out 0
             have hfz218_1 := blk_frozen BK279.out 1
             have hfz218_2 := blk_frozen BK279.out 2
             have hfz218_3 := blk_frozen BK279.out 3
             go_wp2_with (first | ((with_reducible refine gate_callee (f := 17) rfl ?_); refine goesL_ (some 110) rfl rfl Try.func17 (by kernel_rfl) rfl #[.agg #[.int .i64 a0_0, .string a0_1, .int .i64 a0_2, .string a0_3]] rfl (by (try simp only [List.map_toArray, List.map_cons, List.map_nil]); first | done | rfl | (simp only [List.length_drop, List.length_take]; rfl)) ?_; (with_reducible refine (caulkerlaw10_plain.calls kj136 a0_0 a0_1 a0_2 a0_3 false _ A182.out).mono ?_); rintro e w219 ⟨rfl, hb⟩; refine ⟨_, rfl, ?_⟩; replace BK279 := pxk BK279 hb; replace BK290 := pxk BK290 hb; replace BK296 := pxk BK296 hb; replace BK308 := pxk BK308 hb; replace HB := pxs HB hb; (try clear hb); (try clear hb2); (try clear hk); (try clear hi); have hnb220 := NB296_290.out; have hnc220 := NB290_296.out; have hnb221 := NB296_308.out; have hnc221 := NB308_296.out; obtain ⟨hcz222_0, hcz222_1, hcz222_2, hcz222_3, hfz222_0, hfz222_1, hfz222_2, hfz222_3⟩ := pxf4 BK296))
             go_ret
             exact ⟨by first | rfl | (simp [errW_none, errW_some] <;> rfl) | (simp [*, errW_none, errW_some] <;> rfl) | (simp [*, pxbeq, pxbne, errW_none, errW_some]; done), pxb HB⟩
            ·rw [if_neg c214] at H
             exact absurd H (by simp)
   ·replace c9 := Bool.eq_false_iff.mpr c9
    subst c9
    have H1 : (if t289 = 130 then (if t295 = 130 then (if (t285 == 0 && (t286.toList == ([] : List UInt8) && (t287 == 0 && (t288.toList == ([] : List UInt8))))) = true then (some (t291 == 0 && (t292.toList == ([] : List UInt8) && (t293 == 0 && (t294.toList == ([] : List UInt8)))))) else (none)) else (none)) else (none)) = some r := by rw [if_neg (show ¬ (false = true) by decide)] at H; exact H
    clear H
    have H := H1
    clear H1
    by_cases c223 : t289 = 130
    ·rw [if_pos c223] at H
     have c223b0 : (t289 == 130) = true := beq_iff_eq.mpr c223
     have c223b1 : (t289 != 130) = false := bne_eq_false_iff_eq.mpr c223
     clear c223
     by_cases c224 : t295 = 130
     ·rw [if_pos c224] at H
      have c224b0 : (t295 == 130) = true := beq_iff_eq.mpr c224
      have c224b1 : (t295 != 130) = false := bne_eq_false_iff_eq.mpr c224
      clear c224
      by_cases c225 : (t285 == 0 && (t286.toList == ([] : List UInt8) && (t287 == 0 && (t288.toList == ([] : List UInt8))))) = true
      ·rw [if_pos c225] at H
       have c225b0 : (t285 == 0 && (t286.toList == ([] : List UInt8) && (t287 == 0 && (t288.toList == ([] : List UInt8))))) = true := c225
       (try (have c225b0e : (t285 == 0 && (t286.toList.isEmpty && (t287 == 0 && (t288.toList.isEmpty)))) = true := by simpa only [pxbeq, pxbne] using c225b0))
       (try (have c225b1 : decide (t285 = 0 && (t286.toList == ([] : List UInt8) && (t287 == 0 && (t288.toList == ([] : List UInt8))))) = true := by simpa using c225))
       (try (have c225b1e : decide (t285 = 0 && (t286.toList.isEmpty && (t287 == 0 && (t288.toList.isEmpty)))) = true := by simpa only [pxbeq, pxbne] using c225b1))
       (try (have c225b2 : (t285 == 0 && (t286.toList == ([] : List UInt8) && (t287 == 0 && (t288.toList == ([] : List UInt8))))) = true := by simpa using c225))
       (try (have c225b2e : (t285 == 0 && (t286.toList.isEmpty && (t287 == 0 && (t288.toList.isEmpty)))) = true := by simpa only [pxbeq, pxbne] using c225b2))
       clear c225
       obtain rfl := Option.some.inj H
       go_enter Try.func5, Try.ntmps5
       go_wp2_with (first | ((with_reducible refine gate_dst (N := 1) rfl ?_); refine box_event ?hg (N := 1) ?hd (cs := #[.int .i64 a0_0, .string a0_1, .int .i64 a0_2, .string a0_3]) (t := 23) ?hr ?_; (case hd => rfl); (case hg => rfl); (case hr => first | (go_simp; done) | (go_simp; rfl)); intro gb279 hg w226 hbox hb; have BK279 := Aside0.mk (hbox); have GW279 := pxw HB hg; have GE279 := pxw HB hg; replace HB := pxs HB hb; clear hb hbox hg) | ((with_reducible refine gate_callee (f := 9) rfl ?_); refine goesL_ (some 10) rfl rfl Try.func9 (by kernel_rfl) rfl #[] rfl (by (try simp only [List.map_toArray, List.map_cons, List.map_nil]); first | done | rfl | (simp only [List.length_drop, List.length_take]; rfl)) ?_; (with_reducible refine (caulkerlaw10_sorts.calls k  true _ A2.out).mono ?_); rintro e w227 ⟨rfl, hb⟩; refine ⟨_, rfl, ?_⟩; replace BK279 := pxk BK279 hb; replace HB := pxs HB hb; (try clear hb); (try clear hb2); (try clear hk); (try clear hi); obtain ⟨hcz228_0, hcz228_1, hcz228_2, hcz228_3, hfz228_0, hfz228_1, hfz228_2, hfz228_3⟩ := pxf4 BK279) | ((with_reducible refine gate_dst (N := 13) rfl ?_); refine Kd.R_lit k23 _ 23 ?hg (N := 13) ?hd (xs := ([(⟨a0_0, a0_1, a0_2, a0_3⟩ : S23)] : List (S23))) (inner := [.int .i64 a0_0, .string a0_1, .int .i64 a0_2, .string a0_3]) (ok := fun _ => True) (okp := fun _ => True) ?hr ?hp (fun _ hk => hk) trivial (Below.refl _ _) (Nat.le_refl _) (by simp) ?_; (case hd => rfl); (case hg => rfl); (case hr => first | (go_simp; done) | (go_simp; rfl)); (case hp => exact (Reps.c4 (show Kd.M k23 _ _ _ (⟨a0_0, a0_1, a0_2, a0_3⟩ : S23) [.int .i64 a0_0, .string a0_1, .int .i64 a0_2, .string a0_3] from (k23_mkM _ _ _ (⟨a0_0, a0_1, a0_2, a0_3⟩ : S23) )) (Reps.none _ _))); intro v282 w229 ho230 hb hg_ hnew_; clear hg_ hnew_; (first | rw [← Ny281.out] at ho230 | (simp only [Int.reduceToNat] at ho230; rw [← Ny281.out] at ho230)); have HO283 := Aside0.mk (Kd.R_lower (Kd.R_newB ho230 (g := gb279) (o := .cells #[.int .i64 a0_0, .string a0_1, .int .i64 a0_2, .string a0_3] 23 (0, 0)) (pxq BK279)) (below_size (pxb HB))); replace BK279 := pxk BK279 hb; replace HB := pxs HB hb; clear hb ho230; obtain ⟨Ao231, co231, eo231⟩ := Kd.R_slice HO283.out; subst eo231) | ((with_reducible refine gate_callee (f := 10) rfl ?_); refine goesL_ (some 14) rfl rfl Try.func10 (by kernel_rfl) rfl #[.slice Ao231 y281.length co231] rfl (by (try simp only [List.map_toArray, List.map_cons, List.map_nil]); first | done | rfl | (simp only [List.length_drop, List.length_take]; rfl)) ?_; (with_reducible refine (caulkerlaw10_small.calls k _ _ y281 true _ ?side1 ?side2 A4.out).mono ?_); (case side1 => repeat (first | exact (Kd.R_reads' HO283.out).2.2 | (with_reducible refine Kd.C_alloc ?_ _) | (with_reducible refine Kd.C_drewN ?_ _) | (with_reducible refine Kd.C_drew ?_))); (case side2 => exact (Kd.R_reads' HO283.out).2.1); rintro e w232 ⟨rfl, hb⟩; refine ⟨_, rfl, ?_⟩; replace HO283 := Aside0.mk (Kd.R_below (pxr HO283) hb); replace BK279 := pxk BK279 hb; replace HB := pxs HB hb; (try clear hb); (try clear hb2); (try clear hk); (try clear hi); obtain ⟨hcz233_0, hcz233_1, hcz233_2, hcz233_3, hfz233_0, hfz233_1, hfz233_2, hfz233_3⟩ := pxf4 BK279) | ((with_reducible refine gate_callee (f := 19) rfl ?_); refine goesL_ (some 18) rfl rfl Try.func19 (by kernel_rfl) rfl #[.agg #[.int .i64 a0_0, .string a0_1, .int .i64 a0_2, .string a0_3]] rfl (by (try simp only [List.map_toArray, List.map_cons, List.map_nil]); first | done | rfl | (simp only [List.length_drop, List.length_take]; rfl)) ?_; (with_reducible refine (kind_Array.calls k a0_0 a0_1 a0_2 a0_3 t285 t286 t287 t288 t289 _ A6.out).mono ?_); rintro e w234 ⟨rfl, hb⟩; refine ⟨_, rfl, ?_⟩; replace HO283 := Aside0.mk (Kd.R_below (pxr HO283) hb); replace BK279 := pxk BK279 hb; replace HB := pxs HB hb; (try clear hb); (try clear hb2); (try clear hk); (try clear hi)) | ((with_reducible refine gate_dst (N := 3) rfl ?_); refine box_event ?hg (N := 3) ?hd (cs := #[.int .i64 0, .string (⟨#[]⟩ : ByteArray), .int .i64 0, .string (⟨#[]⟩ : ByteArray)]) (t := 23) ?hr ?_; (case hd => rfl); (case hg => rfl); (case hr => first | (go_simp; done) | (go_simp; rfl)); intro gb290 hg w235 hbox hb; have BK290 := Aside0.mk (hbox); have GW290 := pxw HB hg; have GE290 := pxw HB hg; have NB279_290 := pxn BK279 hg; have NB290_279 := Aside0.mk (pxn BK279 hg).out.symm; replace HO283 := Aside0.mk (Kd.R_below (Kd.R_elderB (pxr HO283) gb290 (Nat.le_of_eq hg.symm)) hb); replace BK279 := pxk BK279 hb; replace HB := pxs HB hb; clear hb hbox hg; have hnb236 := NB290_279.out; have hnc236 := NB279_290.out; obtain ⟨hcz237_0, hcz237_1, hcz237_2, hcz237_3, hfz237_0, hfz237_1, hfz237_2, hfz237_3⟩ := pxf4 BK290; obtain ⟨hcz238_0, hcz238_1, hcz238_2, hcz238_3, hfz238_0, hfz238_1, hfz238_2, hfz238_3⟩ := pxf4 BK279) | ((with_reducible refine gate_callee (f := 20) rfl ?_); refine goesL_ (some 23) rfl rfl Try.func20 (by kernel_rfl) rfl #[.agg #[.int .i64 a0_0, .string a0_1, .int .i64 a0_2, .string a0_3]] rfl (by (try simp only [List.map_toArray, List.map_cons, List.map_nil]); first | done | rfl | (simp only [List.length_drop, List.length_take]; rfl)) ?_; (with_reducible refine (kind_Elem.calls k a0_0 a0_1 a0_2 a0_3 t291 t292 t293 t294 t295 _ A7.out).mono ?_); rintro e w239 ⟨rfl, hb⟩; refine ⟨_, rfl, ?_⟩; replace HO283 := Aside0.mk (Kd.R_below (by (with_reducible repeat (first | apply Kd.R_alloc | apply Kd.R_drewN | apply Kd.R_drew)); exact (Kd.R_mono (Kd.R_far (p := ⟨gb290, 3, none⟩) (Kd.R_far (p := ⟨gb290, 2, none⟩) (Kd.R_far (p := ⟨gb290, 1, none⟩) (Kd.R_far (p := ⟨gb290, 0, none⟩) (Kd.R_mono HO283.out (fun k_ hk => (⟨hk, hk.2⟩ : _ ∧ k_ ≠ gb290))) (fun _ hk => hk.2) (.int .i64 t285)) (fun _ hk => hk.2) (.string t286)) (fun _ hk => hk.2) (.int .i64 t287)) (fun _ hk => hk.2) (.string t288)) (fun _ h_ => h_.1))) hb); replace BK279 := Aside0.mk (blk_below (g := gb279) (o := .cells #[.int .i64 a0_0, .string a0_1, .int .i64 a0_2, .string a0_3] 23 (0, 0)) (pxp BK279) hb); replace BK290 := Aside0.mk (blk_below (g := gb290) (o := .cells #[.int .i64 t285, .string t286, .int .i64 t287, .string t288] 23 (0, 0)) (pxp BK290) hb); replace HB := pxs HB hb; (try clear hb); (try clear hb2); (try clear hk); (try clear hi)) | ((with_reducible refine gate_dst (N := 5) rfl ?_); refine box_event ?hg (N := 5) ?hd (cs := #[.int .i64 0, .string (⟨#[]⟩ : ByteArray), .int .i64 0, .string (⟨#[]⟩ : ByteArray)]) (t := 23) ?hr ?_; (case hd => rfl); (case hg => rfl); (case hr => first | (go_simp; done) | (go_simp; rfl)); intro gb296 hg w240 hbox hb; have BK296 := Aside0.mk (hbox); have GW296 := pxw HB hg; have GE296 := pxw HB hg; have NB279_296 := pxn BK279 hg; have NB296_279 := Aside0.mk (pxn BK279 hg).out.symm; have NB290_296 := pxn BK290 hg; have NB296_290 := Aside0.mk (pxn BK290 hg).out.symm; replace HO283 := Aside0.mk (Kd.R_below (Kd.R_elderB (pxr HO283) gb296 (Nat.le_of_eq hg.symm)) hb); replace BK279 := pxk BK279 hb; replace BK290 := pxk BK290 hb; replace HB := pxs HB hb; clear hb hbox hg; have hnb241 := NB296_279.out; have hnc241 := NB279_296.out; have hnb242 := NB296_290.out; have hnc242 := NB290_296.out; obtain ⟨hcz243_0, hcz243_1, hcz243_2, hcz243_3, hfz243_0, hfz243_1, hfz243_2, hfz243_3⟩ := pxf4 BK296; obtain ⟨hcz244_0, hcz244_1, hcz244_2, hcz244_3, hfz244_0, hfz244_1, hfz244_2, hfz244_3⟩ := pxf4 BK279) | ((with_reducible refine gate_callee (f := 11) rfl ?_); refine goesL_ (some 27) rfl rfl Try.func11 (by kernel_rfl) rfl #[.agg #[.int .i64 a0_0, .string a0_1, .int .i64 a0_2, .string a0_3]] rfl (by (try simp only [List.map_toArray, List.map_cons, List.map_nil]); first | done | rfl | (simp only [List.length_drop, List.length_take]; rfl)) ?_; (with_reducible refine (caulkerlaw10_right.calls k a0_0 a0_1 a0_2 a0_3 false _ A8.out).mono ?_); rintro e w245 ⟨rfl, hb⟩; refine ⟨_, rfl, ?_⟩; replace HO283 := Aside0.mk (Kd.R_below (by (with_reducible repeat (first | apply Kd.R_alloc | apply Kd.R_drewN | apply Kd.R_drew)); exact (Kd.R_mono (Kd.R_far (p := ⟨gb296, 3, none⟩) (Kd.R_far (p := ⟨gb296, 2, none⟩) (Kd.R_far (p := ⟨gb296, 1, none⟩) (Kd.R_far (p := ⟨gb296, 0, none⟩) (Kd.R_mono HO283.out (fun k_ hk => (⟨hk, hk.2⟩ : _ ∧ k_ ≠ gb296))) (fun _ hk => hk.2) (.int .i64 t291)) (fun _ hk => hk.2) (.string t292)) (fun _ hk => hk.2) (.int .i64 t293)) (fun _ hk => hk.2) (.string t294)) (fun _ h_ => h_.1))) hb); replace BK279 := Aside0.mk (blk_below (g := gb279) (o := .cells #[.int .i64 a0_0, .string a0_1, .int .i64 a0_2, .string a0_3] 23 (0, 0)) (pxp BK279) hb); replace BK290 := Aside0.mk (blk_below (g := gb290) (o := .cells #[.int .i64 t285, .string t286, .int .i64 t287, .string t288] 23 (0, 0)) (pxp BK290) hb); replace BK296 := Aside0.mk (blk_below (g := gb296) (o := .cells #[.int .i64 t291, .string t292, .int .i64 t293, .string t294] 23 (0, 0)) (pxp BK296) hb); replace HB := pxs HB hb; (try clear hb); (try clear hb2); (try clear hk); (try clear hi); obtain ⟨hcz246_0, hcz246_1, hcz246_2, hcz246_3, hfz246_0, hfz246_1, hfz246_2, hfz246_3⟩ := pxf4 BK290; obtain ⟨hcz247_0, hcz247_1, hcz247_2, hcz247_3, hfz247_0, hfz247_1, hfz247_2, hfz247_3⟩ := pxf4 BK296))
       go_ret
       exact ⟨by first | rfl | (simp [errW_none, errW_some] <;> rfl) | (simp [*, errW_none, errW_some] <;> rfl) | (simp [*, pxbeq, pxbne, errW_none, errW_some]; done), pxb HB⟩
      ·rw [if_neg c225] at H
       exact absurd H (by simp)
     ·rw [if_neg c224] at H
      exact absurd H (by simp)
    ·rw [if_neg c223] at H
     exact absurd H (by simp)
  ·replace c5 := Bool.eq_false_iff.mpr c5
   subst c5
   have H1 : (some true) = some r := by rw [if_neg (show ¬ (false = true) by decide)] at H; exact H
   clear H
   have H := H1
   clear H1
   obtain rfl := Option.some.inj H
   go_enter Try.func5, Try.ntmps5
   go_wp2_with (first | ((with_reducible refine gate_dst (N := 1) rfl ?_); refine box_event ?hg (N := 1) ?hd (cs := #[.int .i64 a0_0, .string a0_1, .int .i64 a0_2, .string a0_3]) (t := 23) ?hr ?_; (case hd => rfl); (case hg => rfl); (case hr => first | (go_simp; done) | (go_simp; rfl)); intro gb279 hg w248 hbox hb; have BK279 := Aside0.mk (hbox); have GW279 := pxw HB hg; have GE279 := pxw HB hg; replace HB := pxs HB hb; clear hb hbox hg) | ((with_reducible refine gate_callee (f := 9) rfl ?_); refine goesL_ (some 10) rfl rfl Try.func9 (by kernel_rfl) rfl #[] rfl (by (try simp only [List.map_toArray, List.map_cons, List.map_nil]); first | done | rfl | (simp only [List.length_drop, List.length_take]; rfl)) ?_; (with_reducible refine (caulkerlaw10_sorts.calls k  true _ A2.out).mono ?_); rintro e w249 ⟨rfl, hb⟩; refine ⟨_, rfl, ?_⟩; replace BK279 := pxk BK279 hb; replace HB := pxs HB hb; (try clear hb); (try clear hb2); (try clear hk); (try clear hi); obtain ⟨hcz250_0, hcz250_1, hcz250_2, hcz250_3, hfz250_0, hfz250_1, hfz250_2, hfz250_3⟩ := pxf4 BK279) | ((with_reducible refine gate_dst (N := 13) rfl ?_); refine Kd.R_lit k23 _ 23 ?hg (N := 13) ?hd (xs := ([(⟨a0_0, a0_1, a0_2, a0_3⟩ : S23)] : List (S23))) (inner := [.int .i64 a0_0, .string a0_1, .int .i64 a0_2, .string a0_3]) (ok := fun _ => True) (okp := fun _ => True) ?hr ?hp (fun _ hk => hk) trivial (Below.refl _ _) (Nat.le_refl _) (by simp) ?_; (case hd => rfl); (case hg => rfl); (case hr => first | (go_simp; done) | (go_simp; rfl)); (case hp => exact (Reps.c4 (show Kd.M k23 _ _ _ (⟨a0_0, a0_1, a0_2, a0_3⟩ : S23) [.int .i64 a0_0, .string a0_1, .int .i64 a0_2, .string a0_3] from (k23_mkM _ _ _ (⟨a0_0, a0_1, a0_2, a0_3⟩ : S23) )) (Reps.none _ _))); intro v282 w251 ho252 hb hg_ hnew_; clear hg_ hnew_; (first | rw [← Ny281.out] at ho252 | (simp only [Int.reduceToNat] at ho252; rw [← Ny281.out] at ho252)); have HO283 := Aside0.mk (Kd.R_lower (Kd.R_newB ho252 (g := gb279) (o := .cells #[.int .i64 a0_0, .string a0_1, .int .i64 a0_2, .string a0_3] 23 (0, 0)) (pxq BK279)) (below_size (pxb HB))); replace BK279 := pxk BK279 hb; replace HB := pxs HB hb; clear hb ho252; obtain ⟨Ao253, co253, eo253⟩ := Kd.R_slice HO283.out; subst eo253) | ((with_reducible refine gate_callee (f := 10) rfl ?_); refine goesL_ (some 14) rfl rfl Try.func10 (by kernel_rfl) rfl #[.slice Ao253 y281.length co253] rfl (by (try simp only [List.map_toArray, List.map_cons, List.map_nil]); first | done | rfl | (simp only [List.length_drop, List.length_take]; rfl)) ?_; (with_reducible refine (caulkerlaw10_small.calls k _ _ y281 false _ ?side1 ?side2 A4.out).mono ?_); (case side1 => repeat (first | exact (Kd.R_reads' HO283.out).2.2 | (with_reducible refine Kd.C_alloc ?_ _) | (with_reducible refine Kd.C_drewN ?_ _) | (with_reducible refine Kd.C_drew ?_))); (case side2 => exact (Kd.R_reads' HO283.out).2.1); rintro e w254 ⟨rfl, hb⟩; refine ⟨_, rfl, ?_⟩; replace HO283 := Aside0.mk (Kd.R_below (pxr HO283) hb); replace BK279 := pxk BK279 hb; replace HB := pxs HB hb; (try clear hb); (try clear hb2); (try clear hk); (try clear hi)))
   go_ret
   exact ⟨by first | rfl | (simp [errW_none, errW_some] <;> rfl) | (simp [*, errW_none, errW_some] <;> rfl) | (simp [*, pxbeq, pxbne, errW_none, errW_some]; done), pxb HB⟩
 ·replace c3 := Bool.eq_false_iff.mpr c3
  subst c3
  have H1 : (none) = some r := by rw [if_neg (show ¬ (false = true) by decide)] at H; exact H
  clear H
  have H := H1
  clear H1
  exact absurd H (by simp)

/-- THE ONE PURE STATEMENT of caulkerlaw10_KindArrays. -/
def caulkerlaw10_KindArrays.Pure : Prop := ∀ (a0_0 : Int) (a0_1 : ByteArray) (a0_2 : Int) (a0_3 : ByteArray), good23 ((⟨a0_0, a0_1, a0_2, a0_3⟩ : S23)) → ∃ k, caulkerlaw10_KindArrays.f k a0_0 a0_1 a0_2 a0_3 = some true

end Go.Proofs.Ytljchkghnmnpgaa.X
