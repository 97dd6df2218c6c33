/- What the program's functions answer, as Lean functions, and that each call does just that; no condition. Written by a program (px.py) out of the translation. -/
import Derived.Test.YtoljmjhmieaggaaX0
import Derived.Test.YtoljmjhmieaggaaX17
import Derived.Test.YtoljmjhmieaggaaX11
import Derived.Test.YtoljmjhmieaggaaX18
import Derived.Test.YtoljmjhmieaggaaShort2
namespace Go.Proofs.Ytoljmjhmieaggaa.X
open Go.RowKit Go.Proofs.YtoljmjhmieaggaaW.PrintWords Go.Proofs.YtoljmjhmieaggaaW.PrintLast Go.Proofs.YtoljmjhmieaggaaW.PrintMore
attribute [local go_sem] max2_int min2_int max_two min_two max_three min_three max_four min_four   -- for this text's walks alone
set_option linter.unusedVariables false
set_option linter.unusedSimpArgs false

/-! ### caulkerlaw04_DiffKeeps: function 8 -/
mutual
def caulkerlaw04_DiffKeeps.j0 : Nat → ByteArray → List (S41) → Bool → Option (Bool)
 | 0, _, _, _ => none
 | k + 1, x0, x1, x29 => if x29 = true then (some true) else (caulkerlaw04_DiffKeeps.l0 k x0 x1 x1 (x1.length : Int) 0)
def caulkerlaw04_DiffKeeps.l0 : Nat → ByteArray → List (S41) → List (S41) → Int → Int → Option (Bool)
 | 0, _, _, _, _, _ => none
 | k + 1, x0, x1, x30, x31, x32 => if x32 < x31 then (if 0 ≤ x32 then (if x32 < (x30.length : Int) then (if (((rd_T41 x30 x32).f1).size : Int) > 100 then (some true) else (caulkerlaw04_DiffKeeps.l0 k x0 x1 x30 x31 (wrap64 (x32 + 1)))) else (none)) else (none)) else ((diff_Kept.f k x0 x1).bind fun bt361 => ((caulkerref03_Check.f k (x0.size : Int) x1).bind fun t365 => (if t365 = 0 then (if 0 ≤ (x0.size : Int) then (if ((x0.size : Int) : Int).toNat ≤ 281474976710656 then ((some (List.replicate ((x0.size : Int) : Int).toNat false : List Bool)).bind fun y366 => (caulkerlaw04_DiffKeeps.l1 k x1 bt361.1 bt361.2 y366 (y366.length : Int) 0)) else (none)) else (none)) else (if bt361.2 = t365 then (some ((bt361.1.length : Int) == 0)) else (none)))))
def caulkerlaw04_DiffKeeps.l1 : Nat → List (S41) → List (S39) → Int → List Bool → Int → Int → Option (Bool)
 | 0, _, _, _, _, _, _ => none
 | k + 1, x1, x7, x8, x10, x65, x66 => if x66 < x65 then (if 0 ≤ x66 then (if x66 < (x10.length : Int) then (caulkerlaw04_DiffKeeps.l1 k x1 x7 x8 (x10.set (x66 : Int).toNat true) x65 (wrap64 (x66 + 1))) else (none)) else (none)) else (caulkerlaw04_DiffKeeps.l2 k x7 x8 x10 x1 (x1.length : Int) 0)
def caulkerlaw04_DiffKeeps.l2 : Nat → List (S39) → Int → List Bool → List (S41) → Int → Int → Option (Bool)
 | 0, _, _, _, _, _, _ => none
 | k + 1, x7, x8, x10, x73, x74, x75 => if x75 < x74 then (if 0 ≤ x75 then (if x75 < (x73.length : Int) then (caulkerlaw04_DiffKeeps.l3 k x7 x8 x10 ((rd_T41 x73 x75).f0.f0) x73 x74 x75 ((rd_T41 x73 x75).f0.f0) ((rd_T41 x73 x75).f0.f1) ((rd_T41 x73 x75).f1)) else (none)) else (none)) else (caulkerlaw04_DiffKeeps.l4 k x7 x8 x10 x7 (x7.length : Int) 0)
def caulkerlaw04_DiffKeeps.l3 : Nat → List (S39) → Int → List Bool → Int → List (S41) → Int → Int → Int → Int → ByteArray → Option (Bool)
 | 0, _, _, _, _, _, _, _, _, _, _ => none
 | k + 1, x7, x8, x10, x14, x73, x74, x75, x372000, x372001, x372002 => if x14 < x372001 then (if 0 ≤ x14 then (if x14 < (x10.length : Int) then (caulkerlaw04_DiffKeeps.l3 k x7 x8 (x10.set (x14 : Int).toNat false) (wrap64 (x14 + 1)) x73 x74 x75 x372000 x372001 x372002) else (none)) else (none)) else (caulkerlaw04_DiffKeeps.l2 k x7 x8 x10 x73 x74 (wrap64 (x75 + 1)))
def caulkerlaw04_DiffKeeps.l4 : Nat → List (S39) → Int → List Bool → List (S39) → Int → Int → Option (Bool)
 | 0, _, _, _, _, _, _ => none
 | k + 1, x7, x8, x10, x93, x94, x95 => if x95 < x94 then (if 0 ≤ x95 then (if x95 < (x93.length : Int) then (if ((rd_T39 x93 x95).f1) ≤ ((rd_T39 x93 x95).f0) then (caulkerlaw04_DiffKeeps.j6 k x7 x8 x10 x93 x94 x95 true ((rd_T39 x93 x95).f0) ((rd_T39 x93 x95).f1)) else (if x95 > 0 then (if 0 ≤ (wrap64 (x95 - 1)) then (if (wrap64 (x95 - 1)) < (x7.length : Int) then (caulkerlaw04_DiffKeeps.j6 k x7 x8 x10 x93 x94 x95 (decide (((rd_T39 x7 (wrap64 (x95 - 1))).f1) ≥ ((rd_T39 x93 x95).f0))) ((rd_T39 x93 x95).f0) ((rd_T39 x93 x95).f1)) else (none)) else (none)) else (caulkerlaw04_DiffKeeps.j6 k x7 x8 x10 x93 x94 x95 false ((rd_T39 x93 x95).f0) ((rd_T39 x93 x95).f1)))) else (none)) else (none)) else (caulkerlaw04_DiffKeeps.l6 k x8 x10 (x10.length : Int) 0)
def caulkerlaw04_DiffKeeps.j6 : Nat → List (S39) → Int → List Bool → List (S39) → Int → Int → Bool → Int → Int → Option (Bool)
 | 0, _, _, _, _, _, _, _, _, _ => none
 | k + 1, x7, x8, x10, x93, x94, x95, x119, x375000, x375001 => if x119 = true then (none) else (caulkerlaw04_DiffKeeps.l5 k x7 x8 x10 x375000 x93 x94 x95 x375000 x375001)
def caulkerlaw04_DiffKeeps.l5 : Nat → List (S39) → Int → List Bool → Int → List (S39) → Int → Int → Int → Int → Option (Bool)
 | 0, _, _, _, _, _, _, _, _, _ => none
 | k + 1, x7, x8, x10, x17, x93, x94, x95, x375000, x375001 => if x17 < x375001 then (if 0 ≤ x17 then (if x17 < (x10.length : Int) then (if rdOf false x10 x17 = true then (caulkerlaw04_DiffKeeps.l5 k x7 x8 (x10.set (x17 : Int).toNat false) (wrap64 (x17 + 1)) x93 x94 x95 x375000 x375001) else (none)) else (none)) else (none)) else (caulkerlaw04_DiffKeeps.l4 k x7 x8 x10 x93 x94 (wrap64 (x95 + 1)))
def caulkerlaw04_DiffKeeps.l6 : Nat → Int → List Bool → Int → Int → Option (Bool)
 | 0, _, _, _, _ => none
 | k + 1, x8, x137, x138, x139 => if x139 < x138 then (if 0 ≤ x139 then (if x139 < (x137.length : Int) then (if rdOf false x137 x139 = true then (none) else (caulkerlaw04_DiffKeeps.l6 k x8 x137 x138 (wrap64 (x139 + 1)))) else (none)) else (none)) else (some (x8 == 0))
end
def caulkerlaw04_DiffKeeps.f (k : Nat) (a0 : ByteArray) (l1 : List (S41)) : Option (Bool) := (caulkerlaw04_finds.f k).bind fun t358 => (if t358 = true then (if (a0.size : Int) > 1000 then (caulkerlaw04_DiffKeeps.j0 k a0 l1 true) else (caulkerlaw04_DiffKeeps.j0 k a0 l1 (decide ((l1.length : Int) > 60)))) else (none))
theorem caulkerlaw04_DiffKeeps.mono_l : ∀ k, (∀ y0 y1 y2, LeO (caulkerlaw04_DiffKeeps.j0 k y0 y1 y2) (caulkerlaw04_DiffKeeps.j0 (k + 1) y0 y1 y2)) ∧ (∀ y0 y1 y2 y3 y4, LeO (caulkerlaw04_DiffKeeps.l0 k y0 y1 y2 y3 y4) (caulkerlaw04_DiffKeeps.l0 (k + 1) y0 y1 y2 y3 y4)) ∧ (∀ y0 y1 y2 y3 y4 y5, LeO (caulkerlaw04_DiffKeeps.l1 k y0 y1 y2 y3 y4 y5) (caulkerlaw04_DiffKeeps.l1 (k + 1) y0 y1 y2 y3 y4 y5)) ∧ (∀ y0 y1 y2 y3 y4 y5, LeO (caulkerlaw04_DiffKeeps.l2 k y0 y1 y2 y3 y4 y5) (caulkerlaw04_DiffKeeps.l2 (k + 1) y0 y1 y2 y3 y4 y5)) ∧ (∀ y0 y1 y2 y3 y4 y5 y6 y7 y8 y9, LeO (caulkerlaw04_DiffKeeps.l3 k y0 y1 y2 y3 y4 y5 y6 y7 y8 y9) (caulkerlaw04_DiffKeeps.l3 (k + 1) y0 y1 y2 y3 y4 y5 y6 y7 y8 y9)) ∧ (∀ y0 y1 y2 y3 y4 y5, LeO (caulkerlaw04_DiffKeeps.l4 k y0 y1 y2 y3 y4 y5) (caulkerlaw04_DiffKeeps.l4 (k + 1) y0 y1 y2 y3 y4 y5)) ∧ (∀ y0 y1 y2 y3 y4 y5 y6 y7 y8, LeO (caulkerlaw04_DiffKeeps.j6 k y0 y1 y2 y3 y4 y5 y6 y7 y8) (caulkerlaw04_DiffKeeps.j6 (k + 1) y0 y1 y2 y3 y4 y5 y6 y7 y8)) ∧ (∀ y0 y1 y2 y3 y4 y5 y6 y7 y8, LeO (caulkerlaw04_DiffKeeps.l5 k y0 y1 y2 y3 y4 y5 y6 y7 y8) (caulkerlaw04_DiffKeeps.l5 (k + 1) y0 y1 y2 y3 y4 y5 y6 y7 y8)) ∧ (∀ y0 y1 y2 y3, LeO (caulkerlaw04_DiffKeeps.l6 k y0 y1 y2 y3) (caulkerlaw04_DiffKeeps.l6 (k + 1) y0 y1 y2 y3))
 | 0 => ⟨fun _ _ _ r h => by simp [caulkerlaw04_DiffKeeps.j0] at h, fun _ _ _ _ _ r h => by simp [caulkerlaw04_DiffKeeps.l0] at h, fun _ _ _ _ _ _ r h => by simp [caulkerlaw04_DiffKeeps.l1] at h, fun _ _ _ _ _ _ r h => by simp [caulkerlaw04_DiffKeeps.l2] at h, fun _ _ _ _ _ _ _ _ _ _ r h => by simp [caulkerlaw04_DiffKeeps.l3] at h, fun _ _ _ _ _ _ r h => by simp [caulkerlaw04_DiffKeeps.l4] at h, fun _ _ _ _ _ _ _ _ _ r h => by simp [caulkerlaw04_DiffKeeps.j6] at h, fun _ _ _ _ _ _ _ _ _ r h => by simp [caulkerlaw04_DiffKeeps.l5] at h, fun _ _ _ _ r h => by simp [caulkerlaw04_DiffKeeps.l6] at h⟩
 | k + 1 => by
  obtain ⟨ih0, ih1, ih2, ih3, ih4, ih5, ih6, ih7, ih8⟩ := caulkerlaw04_DiffKeeps.mono_l k
  refine ⟨?_, ?_, ?_, ?_, ?_, ?_, ?_, ?_, ?_⟩
  ·intro y0 y1 y2
   unfold caulkerlaw04_DiffKeeps.j0
   repeat' first
   | (with_reducible exact ih0 _ _ _)
   | (with_reducible exact ih1 _ _ _ _ _)
   | (with_reducible exact ih2 _ _ _ _ _ _)
   | (with_reducible exact ih3 _ _ _ _ _ _)
   | (with_reducible exact ih4 _ _ _ _ _ _ _ _ _ _)
   | (with_reducible exact ih5 _ _ _ _ _ _)
   | (with_reducible exact ih6 _ _ _ _ _ _ _ _ _)
   | (with_reducible exact ih7 _ _ _ _ _ _ _ _ _)
   | (with_reducible exact ih8 _ _ _ _)
   | (with_reducible exact caulkerlaw04_finds.mono _)
   | (with_reducible exact caulkerref03_Check.mono _ _ _)
   | (with_reducible exact diff_Kept.mono _ _ _)
   | (with_reducible exact LeO.refl _)
   | (with_reducible exact LeO.none _)
   | (with_reducible refine LeO.ite ?_ ?_)
   | (with_reducible refine LeO.bind ?_ (fun _ => ?_))
   | exact ih0 _ _ _
   | exact ih1 _ _ _ _ _
   | exact ih2 _ _ _ _ _ _
   | exact ih3 _ _ _ _ _ _
   | exact ih4 _ _ _ _ _ _ _ _ _ _
   | exact ih5 _ _ _ _ _ _
   | exact ih6 _ _ _ _ _ _ _ _ _
   | exact ih7 _ _ _ _ _ _ _ _ _
   | exact ih8 _ _ _ _
   | exact caulkerlaw04_finds.mono _
   | exact caulkerref03_Check.mono _ _ _
   | exact diff_Kept.mono _ _ _
   | exact LeO.none _
   | refine LeO.ite ?_ ?_
   | refine LeO.bind ?_ (fun _ => ?_)
  ·intro y0 y1 y2 y3 y4
   unfold caulkerlaw04_DiffKeeps.l0
   repeat' first
   | (with_reducible exact ih0 _ _ _)
   | (with_reducible exact ih1 _ _ _ _ _)
   | (with_reducible exact ih2 _ _ _ _ _ _)
   | (with_reducible exact ih3 _ _ _ _ _ _)
   | (with_reducible exact ih4 _ _ _ _ _ _ _ _ _ _)
   | (with_reducible exact ih5 _ _ _ _ _ _)
   | (with_reducible exact ih6 _ _ _ _ _ _ _ _ _)
   | (with_reducible exact ih7 _ _ _ _ _ _ _ _ _)
   | (with_reducible exact ih8 _ _ _ _)
   | (with_reducible exact caulkerlaw04_finds.mono _)
   | (with_reducible exact caulkerref03_Check.mono _ _ _)
   | (with_reducible exact diff_Kept.mono _ _ _)
   | (with_reducible exact LeO.refl _)
   | (with_reducible exact LeO.none _)
   | (with_reducible refine LeO.ite ?_ ?_)
   | (with_reducible refine LeO.bind ?_ (fun _ => ?_))
   | exact ih0 _ _ _
   | exact ih1 _ _ _ _ _
   | exact ih2 _ _ _ _ _ _
   | exact ih3 _ _ _ _ _ _
   | exact ih4 _ _ _ _ _ _ _ _ _ _
   | exact ih5 _ _ _ _ _ _
   | exact ih6 _ _ _ _ _ _ _ _ _
   | exact ih7 _ _ _ _ _ _ _ _ _
   | exact ih8 _ _ _ _
   | exact caulkerlaw04_finds.mono _
   | exact caulkerref03_Check.mono _ _ _
   | exact diff_Kept.mono _ _ _
   | exact LeO.none _
   | refine LeO.ite ?_ ?_
   | refine LeO.bind ?_ (fun _ => ?_)
  ·intro y0 y1 y2 y3 y4 y5
   unfold caulkerlaw04_DiffKeeps.l1
   repeat' first
   | (with_reducible exact ih0 _ _ _)
   | (with_reducible exact ih1 _ _ _ _ _)
   | (with_reducible exact ih2 _ _ _ _ _ _)
   | (with_reducible exact ih3 _ _ _ _ _ _)
   | (with_reducible exact ih4 _ _ _ _ _ _ _ _ _ _)
   | (with_reducible exact ih5 _ _ _ _ _ _)
   | (with_reducible exact ih6 _ _ _ _ _ _ _ _ _)
   | (with_reducible exact ih7 _ _ _ _ _ _ _ _ _)
   | (with_reducible exact ih8 _ _ _ _)
   | (with_reducible exact caulkerlaw04_finds.mono _)
   | (with_reducible exact caulkerref03_Check.mono _ _ _)
   | (with_reducible exact diff_Kept.mono _ _ _)
   | (with_reducible exact LeO.refl _)
   | (with_reducible exact LeO.none _)
   | (with_reducible refine LeO.ite ?_ ?_)
   | (with_reducible refine LeO.bind ?_ (fun _ => ?_))
   | exact ih0 _ _ _
   | exact ih1 _ _ _ _ _
   | exact ih2 _ _ _ _ _ _
   | exact ih3 _ _ _ _ _ _
   | exact ih4 _ _ _ _ _ _ _ _ _ _
   | exact ih5 _ _ _ _ _ _
   | exact ih6 _ _ _ _ _ _ _ _ _
   | exact ih7 _ _ _ _ _ _ _ _ _
   | exact ih8 _ _ _ _
   | exact caulkerlaw04_finds.mono _
   | exact caulkerref03_Check.mono _ _ _
   | exact diff_Kept.mono _ _ _
   | exact LeO.none _
   | refine LeO.ite ?_ ?_
   | refine LeO.bind ?_ (fun _ => ?_)
  ·intro y0 y1 y2 y3 y4 y5
   unfold caulkerlaw04_DiffKeeps.l2
   repeat' first
   | (with_reducible exact ih0 _ _ _)
   | (with_reducible exact ih1 _ _ _ _ _)
   | (with_reducible exact ih2 _ _ _ _ _ _)
   | (with_reducible exact ih3 _ _ _ _ _ _)
   | (with_reducible exact ih4 _ _ _ _ _ _ _ _ _ _)
   | (with_reducible exact ih5 _ _ _ _ _ _)
   | (with_reducible exact ih6 _ _ _ _ _ _ _ _ _)
   | (with_reducible exact ih7 _ _ _ _ _ _ _ _ _)
   | (with_reducible exact ih8 _ _ _ _)
   | (with_reducible exact caulkerlaw04_finds.mono _)
   | (with_reducible exact caulkerref03_Check.mono _ _ _)
   | (with_reducible exact diff_Kept.mono _ _ _)
   | (with_reducible exact LeO.refl _)
   | (with_reducible exact LeO.none _)
   | (with_reducible refine LeO.ite ?_ ?_)
   | (with_reducible refine LeO.bind ?_ (fun _ => ?_))
   | exact ih0 _ _ _
   | exact ih1 _ _ _ _ _
   | exact ih2 _ _ _ _ _ _
   | exact ih3 _ _ _ _ _ _
   | exact ih4 _ _ _ _ _ _ _ _ _ _
   | exact ih5 _ _ _ _ _ _
   | exact ih6 _ _ _ _ _ _ _ _ _
   | exact ih7 _ _ _ _ _ _ _ _ _
   | exact ih8 _ _ _ _
   | exact caulkerlaw04_finds.mono _
   | exact caulkerref03_Check.mono _ _ _
   | exact diff_Kept.mono _ _ _
   | exact LeO.none _
   | refine LeO.ite ?_ ?_
   | refine LeO.bind ?_ (fun _ => ?_)
  ·intro y0 y1 y2 y3 y4 y5 y6 y7 y8 y9
   unfold caulkerlaw04_DiffKeeps.l3
   repeat' first
   | (with_reducible exact ih0 _ _ _)
   | (with_reducible exact ih1 _ _ _ _ _)
   | (with_reducible exact ih2 _ _ _ _ _ _)
   | (with_reducible exact ih3 _ _ _ _ _ _)
   | (with_reducible exact ih4 _ _ _ _ _ _ _ _ _ _)
   | (with_reducible exact ih5 _ _ _ _ _ _)
   | (with_reducible exact ih6 _ _ _ _ _ _ _ _ _)
   | (with_reducible exact ih7 _ _ _ _ _ _ _ _ _)
   | (with_reducible exact ih8 _ _ _ _)
   | (with_reducible exact caulkerlaw04_finds.mono _)
   | (with_reducible exact caulkerref03_Check.mono _ _ _)
   | (with_reducible exact diff_Kept.mono _ _ _)
   | (with_reducible exact LeO.refl _)
   | (with_reducible exact LeO.none _)
   | (with_reducible refine LeO.ite ?_ ?_)
   | (with_reducible refine LeO.bind ?_ (fun _ => ?_))
   | exact ih0 _ _ _
   | exact ih1 _ _ _ _ _
   | exact ih2 _ _ _ _ _ _
   | exact ih3 _ _ _ _ _ _
   | exact ih4 _ _ _ _ _ _ _ _ _ _
   | exact ih5 _ _ _ _ _ _
   | exact ih6 _ _ _ _ _ _ _ _ _
   | exact ih7 _ _ _ _ _ _ _ _ _
   | exact ih8 _ _ _ _
   | exact caulkerlaw04_finds.mono _
   | exact caulkerref03_Check.mono _ _ _
   | exact diff_Kept.mono _ _ _
   | exact LeO.none _
   | refine LeO.ite ?_ ?_
   | refine LeO.bind ?_ (fun _ => ?_)
  ·intro y0 y1 y2 y3 y4 y5
   unfold caulkerlaw04_DiffKeeps.l4
   repeat' first
   | (with_reducible exact ih0 _ _ _)
   | (with_reducible exact ih1 _ _ _ _ _)
   | (with_reducible exact ih2 _ _ _ _ _ _)
   | (with_reducible exact ih3 _ _ _ _ _ _)
   | (with_reducible exact ih4 _ _ _ _ _ _ _ _ _ _)
   | (with_reducible exact ih5 _ _ _ _ _ _)
   | (with_reducible exact ih6 _ _ _ _ _ _ _ _ _)
   | (with_reducible exact ih7 _ _ _ _ _ _ _ _ _)
   | (with_reducible exact ih8 _ _ _ _)
   | (with_reducible exact caulkerlaw04_finds.mono _)
   | (with_reducible exact caulkerref03_Check.mono _ _ _)
   | (with_reducible exact diff_Kept.mono _ _ _)
   | (with_reducible exact LeO.refl _)
   | (with_reducible exact LeO.none _)
   | (with_reducible refine LeO.ite ?_ ?_)
   | (with_reducible refine LeO.bind ?_ (fun _ => ?_))
   | exact ih0 _ _ _
   | exact ih1 _ _ _ _ _
   | exact ih2 _ _ _ _ _ _
   | exact ih3 _ _ _ _ _ _
   | exact ih4 _ _ _ _ _ _ _ _ _ _
   | exact ih5 _ _ _ _ _ _
   | exact ih6 _ _ _ _ _ _ _ _ _
   | exact ih7 _ _ _ _ _ _ _ _ _
   | exact ih8 _ _ _ _
   | exact caulkerlaw04_finds.mono _
   | exact caulkerref03_Check.mono _ _ _
   | exact diff_Kept.mono _ _ _
   | exact LeO.none _
   | refine LeO.ite ?_ ?_
   | refine LeO.bind ?_ (fun _ => ?_)
  ·intro y0 y1 y2 y3 y4 y5 y6 y7 y8
   unfold caulkerlaw04_DiffKeeps.j6
   repeat' first
   | (with_reducible exact ih0 _ _ _)
   | (with_reducible exact ih1 _ _ _ _ _)
   | (with_reducible exact ih2 _ _ _ _ _ _)
   | (with_reducible exact ih3 _ _ _ _ _ _)
   | (with_reducible exact ih4 _ _ _ _ _ _ _ _ _ _)
   | (with_reducible exact ih5 _ _ _ _ _ _)
   | (with_reducible exact ih6 _ _ _ _ _ _ _ _ _)
   | (with_reducible exact ih7 _ _ _ _ _ _ _ _ _)
   | (with_reducible exact ih8 _ _ _ _)
   | (with_reducible exact caulkerlaw04_finds.mono _)
   | (with_reducible exact caulkerref03_Check.mono _ _ _)
   | (with_reducible exact diff_Kept.mono _ _ _)
   | (with_reducible exact LeO.refl _)
   | (with_reducible exact LeO.none _)
   | (with_reducible refine LeO.ite ?_ ?_)
   | (with_reducible refine LeO.bind ?_ (fun _ => ?_))
   | exact ih0 _ _ _
   | exact ih1 _ _ _ _ _
   | exact ih2 _ _ _ _ _ _
   | exact ih3 _ _ _ _ _ _
   | exact ih4 _ _ _ _ _ _ _ _ _ _
   | exact ih5 _ _ _ _ _ _
   | exact ih6 _ _ _ _ _ _ _ _ _
   | exact ih7 _ _ _ _ _ _ _ _ _
   | exact ih8 _ _ _ _
   | exact caulkerlaw04_finds.mono _
   | exact caulkerref03_Check.mono _ _ _
   | exact diff_Kept.mono _ _ _
   | exact LeO.none _
   | refine LeO.ite ?_ ?_
   | refine LeO.bind ?_ (fun _ => ?_)
  ·intro y0 y1 y2 y3 y4 y5 y6 y7 y8
   unfold caulkerlaw04_DiffKeeps.l5
   repeat' first
   | (with_reducible exact ih0 _ _ _)
   | (with_reducible exact ih1 _ _ _ _ _)
   | (with_reducible exact ih2 _ _ _ _ _ _)
   | (with_reducible exact ih3 _ _ _ _ _ _)
   | (with_reducible exact ih4 _ _ _ _ _ _ _ _ _ _)
   | (with_reducible exact ih5 _ _ _ _ _ _)
   | (with_reducible exact ih6 _ _ _ _ _ _ _ _ _)
   | (with_reducible exact ih7 _ _ _ _ _ _ _ _ _)
   | (with_reducible exact ih8 _ _ _ _)
   | (with_reducible exact caulkerlaw04_finds.mono _)
   | (with_reducible exact caulkerref03_Check.mono _ _ _)
   | (with_reducible exact diff_Kept.mono _ _ _)
   | (with_reducible exact LeO.refl _)
   | (with_reducible exact LeO.none _)
   | (with_reducible refine LeO.ite ?_ ?_)
   | (with_reducible refine LeO.bind ?_ (fun _ => ?_))
   | exact ih0 _ _ _
   | exact ih1 _ _ _ _ _
   | exact ih2 _ _ _ _ _ _
   | exact ih3 _ _ _ _ _ _
   | exact ih4 _ _ _ _ _ _ _ _ _ _
   | exact ih5 _ _ _ _ _ _
   | exact ih6 _ _ _ _ _ _ _ _ _
   | exact ih7 _ _ _ _ _ _ _ _ _
   | exact ih8 _ _ _ _
   | exact caulkerlaw04_finds.mono _
   | exact caulkerref03_Check.mono _ _ _
   | exact diff_Kept.mono _ _ _
   | exact LeO.none _
   | refine LeO.ite ?_ ?_
   | refine LeO.bind ?_ (fun _ => ?_)
  ·intro y0 y1 y2 y3
   unfold caulkerlaw04_DiffKeeps.l6
   repeat' first
   | (with_reducible exact ih0 _ _ _)
   | (with_reducible exact ih1 _ _ _ _ _)
   | (with_reducible exact ih2 _ _ _ _ _ _)
   | (with_reducible exact ih3 _ _ _ _ _ _)
   | (with_reducible exact ih4 _ _ _ _ _ _ _ _ _ _)
   | (with_reducible exact ih5 _ _ _ _ _ _)
   | (with_reducible exact ih6 _ _ _ _ _ _ _ _ _)
   | (with_reducible exact ih7 _ _ _ _ _ _ _ _ _)
   | (with_reducible exact ih8 _ _ _ _)
   | (with_reducible exact caulkerlaw04_finds.mono _)
   | (with_reducible exact caulkerref03_Check.mono _ _ _)
   | (with_reducible exact diff_Kept.mono _ _ _)
   | (with_reducible exact LeO.refl _)
   | (with_reducible exact LeO.none _)
   | (with_reducible refine LeO.ite ?_ ?_)
   | (with_reducible refine LeO.bind ?_ (fun _ => ?_))
   | exact ih0 _ _ _
   | exact ih1 _ _ _ _ _
   | exact ih2 _ _ _ _ _ _
   | exact ih3 _ _ _ _ _ _
   | exact ih4 _ _ _ _ _ _ _ _ _ _
   | exact ih5 _ _ _ _ _ _
   | exact ih6 _ _ _ _ _ _ _ _ _
   | exact ih7 _ _ _ _ _ _ _ _ _
   | exact ih8 _ _ _ _
   | exact caulkerlaw04_finds.mono _
   | exact caulkerref03_Check.mono _ _ _
   | exact diff_Kept.mono _ _ _
   | exact LeO.none _
   | refine LeO.ite ?_ ?_
   | refine LeO.bind ?_ (fun _ => ?_)
theorem caulkerlaw04_DiffKeeps.mono : ∀ a0 a1 k, LeO (caulkerlaw04_DiffKeeps.f k a0 a1) (caulkerlaw04_DiffKeeps.f (k + 1) a0 a1) := by
 intro a0 a1 k
 obtain ⟨ih0, ih1, ih2, ih3, ih4, ih5, ih6, ih7, ih8⟩ := caulkerlaw04_DiffKeeps.mono_l k
 unfold caulkerlaw04_DiffKeeps.f
 repeat' first
   | (with_reducible exact ih0 _ _ _)
   | (with_reducible exact ih1 _ _ _ _ _)
   | (with_reducible exact ih2 _ _ _ _ _ _)
   | (with_reducible exact ih3 _ _ _ _ _ _)
   | (with_reducible exact ih4 _ _ _ _ _ _ _ _ _ _)
   | (with_reducible exact ih5 _ _ _ _ _ _)
   | (with_reducible exact ih6 _ _ _ _ _ _ _ _ _)
   | (with_reducible exact ih7 _ _ _ _ _ _ _ _ _)
   | (with_reducible exact ih8 _ _ _ _)
   | (with_reducible exact caulkerlaw04_finds.mono _)
   | (with_reducible exact caulkerref03_Check.mono _ _ _)
   | (with_reducible exact diff_Kept.mono _ _ _)
   | (with_reducible exact LeO.refl _)
   | (with_reducible exact LeO.none _)
   | (with_reducible refine LeO.ite ?_ ?_)
   | (with_reducible refine LeO.bind ?_ (fun _ => ?_))
   | exact ih0 _ _ _
   | exact ih1 _ _ _ _ _
   | exact ih2 _ _ _ _ _ _
   | exact ih3 _ _ _ _ _ _
   | exact ih4 _ _ _ _ _ _ _ _ _ _
   | exact ih5 _ _ _ _ _ _
   | exact ih6 _ _ _ _ _ _ _ _ _
   | exact ih7 _ _ _ _ _ _ _ _ _
   | exact ih8 _ _ _ _
   | exact caulkerlaw04_finds.mono _
   | exact caulkerref03_Check.mono _ _ _
   | exact diff_Kept.mono _ _ _
   | exact LeO.none _
   | refine LeO.ite ?_ ?_
   | refine LeO.bind ?_ (fun _ => ?_)
set_option maxHeartbeats 8000000 in
set_option maxRecDepth 100000 in
theorem caulkerlaw04_DiffKeeps.calls (k : Nat) (a0 : ByteArray) (A1 : Option Addr) (c1 : Nat) (l1 : List (S41)) (r : Bool) (w : World) (hr1 : Kd.C k41 w A1 l1.length l1) (hc1 : l1.length ≤ c1) (h : caulkerlaw04_DiffKeeps.f k a0 l1 = some r) :
  Calls Try.prog 8 #[.string a0, .slice A1 l1.length c1] w fun e w' => e = .returned (.bool r) ∧ Below w.heap.size w w' := by
 have hu41 := Try.underlying41
 have hu39 := Try.underlying39
 have HR1 := Aside0.mk hr1
 have HC1 := Aside0.mk hc1
 clear hr1 hc1
 have HB := Aside0.mk (Below.refl w.heap.size w)
 have H : ((caulkerlaw04_finds.f k).bind fun t358 => (if t358 = true then (if (a0.size : Int) > 1000 then (caulkerlaw04_DiffKeeps.j0 k a0 l1 true) else (caulkerlaw04_DiffKeeps.j0 k a0 l1 (decide ((l1.length : Int) > 60)))) else (none))) = some r := h
 clear h
 replace H := Option.bind_eq_some_iff.mp H
 obtain ⟨t358, A30, H⟩ := H
 replace H : (if t358 = true then (if (a0.size : Int) > 1000 then (caulkerlaw04_DiffKeeps.j0 k a0 l1 true) else (caulkerlaw04_DiffKeeps.j0 k a0 l1 (decide ((l1.length : Int) > 60)))) else (none)) = some r := H
 have A3 := Aside0.mk A30
 clear A30
 by_cases c4 : t358 = true
 ·subst c4
  have H1 : (if (a0.size : Int) > 1000 then (caulkerlaw04_DiffKeeps.j0 k a0 l1 true) else (caulkerlaw04_DiffKeeps.j0 k a0 l1 (decide ((l1.length : Int) > 60)))) = some r := by rw [if_pos rfl] at H; exact H
  clear H
  have H := H1
  clear H1
  have HC5 := Aside0.mk H
  clear H
  go_enter Try.func8, Try.ntmps8
  go_upto_region 3 with (first | (go_at_call 11; (with_reducible refine (caulkerlaw04_finds.calls k  true _ A3.out).mono ?_); rintro e w6 ⟨rfl, hb⟩; replace HB := pxs HB hb; (try clear hb); (try clear hb2); (try clear hk); (try clear hi)))
  repeat (go_quiet (fail); go_upto_region 3 with (first | (go_at_call 11; (with_reducible refine (caulkerlaw04_finds.calls k  true _ A3.out).mono ?_); rintro e w6 ⟨rfl, hb⟩; replace HB := pxs HB hb; (try clear hb); (try clear hb2); (try clear hk); (try clear hi))))
  (try simp only [Act.put, List.setIfInBounds_toArray, List.set_cons_zero, List.set_cons_succ])
  go_cut [29] (fun v29 wc => ∃ (kq : Nat) (x29_4 : Bool), v29 = .bool x29_4 ∧ Aside0 (caulkerlaw04_DiffKeeps.j0 kq a0 l1 x29_4 = some r) ∧ Aside0 (kq ≤ k) ∧ Aside0 (Below w.heap.size w wc))
  case first =>
   have H := HC5.out
   clear HC5
   by_cases c7 : (a0.size : Int) > 1000
   ·rw [if_pos c7] at H
    have c7b0 : decide (1000 < (a0.size : Int)) = true := decide_eq_true c7
    have c7b1 : decide (1000 < a0.size) = true := decide_eq_true (by omega)
    clear c7
    (first | rw [c7b0] | (simp only [i64_w, i32_w]; rw [c7b0]) | skip)
    have H' := Aside0.mk H
    clear H
    go_wp2
    repeat (go_quiet (fail); try go_wp2)
    go_meet
    case rel => exact ⟨_, (true), (by first | rfl | (simp; done) | (simp [*]; done)), H', ⟨by first | omega | exact Nat.le_refl _⟩, ⟨pxb HB⟩⟩
   ·rw [if_neg c7] at H
    have c7b0 : decide (1000 < (a0.size : Int)) = false := decide_eq_false c7
    have c7b1 : decide (1000 < a0.size) = false := decide_eq_false (by omega)
    clear c7
    (first | rw [c7b0] | (simp only [i64_w, i32_w]; rw [c7b0]) | skip)
    have H' := Aside0.mk H
    clear H
    go_wp2
    repeat (go_quiet (fail); try go_wp2)
    go_meet
    case rel => exact ⟨_, (decide ((l1.length : Int) > 60)), (by first | rfl | (simp; done) | (simp [*]; done)), H', ⟨by first | omega | exact Nat.le_refl _⟩, ⟨pxb HB⟩⟩
  case rest => as_aux_lemma =>
   clear HC5
   (try clear c1); (try clear p2); (try clear c4); (try clear c7); (try clear c7b0); (try clear c7b1)
   obtain ⟨kq, x29_4, rfl, HA, HJ4, HB⟩ := hcut
   cases kq with
   | zero => exact absurd HA.out (by simp [caulkerlaw04_DiffKeeps.j0])
   | succ kj4 =>
    have H := HA.out
    clear HA
    simp only [caulkerlaw04_DiffKeeps.j0] at H
    by_cases c8 : x29_4 = true
    ·subst c8
     have H1 : (some true) = some r := by rw [if_pos rfl] at H; exact H
     clear H
     have H := H1
     clear H1
     obtain rfl := Option.some.inj H
     go_wp2
     repeat (go_quiet (fail); try go_wp2)
     go_ret
     exact ⟨by first | rfl | (simp [errW_none, errW_some] <;> rfl) | (simp [*, errW_none, errW_some] <;> rfl), pxb HB⟩
    ·replace c8 := Bool.eq_false_iff.mpr c8
     subst c8
     have H1 : (caulkerlaw04_DiffKeeps.l0 kj4 a0 l1 l1 (l1.length : Int) 0) = some r := by rw [if_neg (show ¬ (false = true) by decide)] at H; exact H
     clear H
     have H := H1
     clear H1
     have H' := Aside0.mk H
     clear H
     go_wp2
     repeat (go_quiet (fail); try go_wp2)
     go_loopg [32] kj4 (fun kq v32 w' => ∃ (x32_2 : Int), v32 = .int .i64 x32_2 ∧ Aside0 (caulkerlaw04_DiffKeeps.l0 kq a0 l1 l1 (l1.length : Int) x32_2 = some r) ∧ Aside0 (kq ≤ kj4) ∧ Aside0 (Below w.heap.size w w'))
     case atStart => exact ⟨(0), (by first | rfl | (simp; done) | (simp [*]; done)), H', ⟨Nat.le_refl _⟩, ⟨pxb HB⟩⟩
     case round =>
      clear H'
      (try clear c1); (try clear p2); (try clear c4); (try clear c7); (try clear c7b0); (try clear c7b1); (try clear c8)
      obtain ⟨x32_2, rfl, HA, HK2, HB⟩ := hrel
      cases gk with
      | zero => exact absurd HA.out (by simp [caulkerlaw04_DiffKeeps.l0])
      | succ k2 =>
       have H := HA.out
       clear HA
       simp only [caulkerlaw04_DiffKeeps.l0] at H
       by_cases c9 : x32_2 < (l1.length : Int)
       ·rw [if_pos c9] at H
        have c9b0 : decide (x32_2 < (l1.length : Int)) = true := decide_eq_true c9
        clear c9
        by_cases c10 : 0 ≤ x32_2
        ·rw [if_pos c10] at H
         have c10b0 : decide (0 ≤ x32_2) = true := decide_eq_true c10
         clear c10
         by_cases c11 : x32_2 < (l1.length : Int)
         ·rw [if_pos c11] at H
          have c11b0 : decide (x32_2 < (l1.length : Int)) = true := decide_eq_true c11
          clear c11
          by_cases c12 : (((rd_T41 l1 x32_2).f1).size : Int) > 100
          ·rw [if_pos c12] at H
           have c12b0 : decide (100 < (((rd_T41 l1 x32_2).f1).size : Int)) = true := decide_eq_true c12
           have c12b1 : decide (100 < ((rd_T41 l1 x32_2).f1).size) = true := decide_eq_true (by omega)
           clear c12
           obtain rfl := Option.some.inj H
           have p359 : 0 ≤ (x32_2 : Int) := pxd
           have q359 : x32_2 < (l1.length : Int) := pxd
           obtain ⟨ad359, e359, hx359_0, hx359_1, hx359_2⟩ := at_T41 HR1.out x32_2 p359 q359
           cases e359
           replace hx359_0 := (HB.out.cell (World.block_lt_of_cell? w _ hx359_0)).trans hx359_0
           replace hx359_1 := (HB.out.cell (World.block_lt_of_cell? w _ hx359_1)).trans hx359_1
           replace hx359_2 := (HB.out.cell (World.block_lt_of_cell? w _ hx359_2)).trans hx359_2
           replace p359 := eq_true p359
           replace q359 := eq_true q359
           go_wp2_with (first | ((with_reducible refine gate_dst (N := 6) rfl ?_); refine box_event ?hg (N := 6) ?hd (cs := #[.int .i64 0, .int .i64 0, .string (⟨#[]⟩ : ByteArray)]) (t := 41) ?hr ?_; (case hd => rfl); (case hg => rfl); (case hr => first | (go_simp; done) | (go_simp; rfl)); intro gb360 hg w13 hbox hb; have BK360 := Aside0.mk (hbox); have GW360 := pxw HB hg; have GE360 := pxw HB hg; replace HB := pxs HB hb; clear hb hbox hg; obtain ⟨hcz14_0, hcz14_1, hcz14_2, hfz14_0, hfz14_1, hfz14_2⟩ := pxf3 BK360))
           repeat (go_quiet (fail); try go_wp2_with (first | ((with_reducible refine gate_dst (N := 6) rfl ?_); refine box_event ?hg (N := 6) ?hd (cs := #[.int .i64 0, .int .i64 0, .string (⟨#[]⟩ : ByteArray)]) (t := 41) ?hr ?_; (case hd => rfl); (case hg => rfl); (case hr => first | (go_simp; done) | (go_simp; rfl)); intro gb360 hg w13 hbox hb; have BK360 := Aside0.mk (hbox); have GW360 := pxw HB hg; have GE360 := pxw HB hg; replace HB := pxs HB hb; clear hb hbox hg; obtain ⟨hcz14_0, hcz14_1, hcz14_2, hfz14_0, hfz14_1, hfz14_2⟩ := pxf3 BK360)))
           go_ret
           exact ⟨by first | rfl | (simp [errW_none, errW_some] <;> rfl) | (simp [*, errW_none, errW_some] <;> rfl), pxb HB⟩
          ·rw [if_neg c12] at H
           have c12b0 : decide (100 < (((rd_T41 l1 x32_2).f1).size : Int)) = false := decide_eq_false c12
           have c12b1 : decide (100 < ((rd_T41 l1 x32_2).f1).size) = false := decide_eq_false (by omega)
           clear c12
           have H' := Aside0.mk H
           clear H
           have p359 : 0 ≤ (x32_2 : Int) := pxd
           have q359 : x32_2 < (l1.length : Int) := pxd
           obtain ⟨ad359, e359, hx359_0, hx359_1, hx359_2⟩ := at_T41 HR1.out x32_2 p359 q359
           cases e359
           replace hx359_0 := (HB.out.cell (World.block_lt_of_cell? w _ hx359_0)).trans hx359_0
           replace hx359_1 := (HB.out.cell (World.block_lt_of_cell? w _ hx359_1)).trans hx359_1
           replace hx359_2 := (HB.out.cell (World.block_lt_of_cell? w _ hx359_2)).trans hx359_2
           replace p359 := eq_true p359
           replace q359 := eq_true q359
           go_wp2_with (first | ((with_reducible refine gate_dst (N := 6) rfl ?_); refine box_event ?hg (N := 6) ?hd (cs := #[.int .i64 0, .int .i64 0, .string (⟨#[]⟩ : ByteArray)]) (t := 41) ?hr ?_; (case hd => rfl); (case hg => rfl); (case hr => first | (go_simp; done) | (go_simp; rfl)); intro gb360 hg w15 hbox hb; have BK360 := Aside0.mk (hbox); have GW360 := pxw HB hg; have GE360 := pxw HB hg; replace HB := pxs HB hb; clear hb hbox hg; obtain ⟨hcz16_0, hcz16_1, hcz16_2, hfz16_0, hfz16_1, hfz16_2⟩ := pxf3 BK360))
           repeat (go_quiet (fail); try go_wp2_with (first | ((with_reducible refine gate_dst (N := 6) rfl ?_); refine box_event ?hg (N := 6) ?hd (cs := #[.int .i64 0, .int .i64 0, .string (⟨#[]⟩ : ByteArray)]) (t := 41) ?hr ?_; (case hd => rfl); (case hg => rfl); (case hr => first | (go_simp; done) | (go_simp; rfl)); intro gb360 hg w15 hbox hb; have BK360 := Aside0.mk (hbox); have GW360 := pxw HB hg; have GE360 := pxw HB hg; replace HB := pxs HB hb; clear hb hbox hg; obtain ⟨hcz16_0, hcz16_1, hcz16_2, hfz16_0, hfz16_1, hfz16_2⟩ := pxf3 BK360)))
           go_roundg k2
           case measure => have := HJ4.out; have := HK2.out; omega
           case rel => exact ⟨(wrap64 (x32_2 + 1)), (by first | rfl | (simp; done) | (simp [*]; done)), H', ⟨by have := HJ4.out; have := HK2.out; omega⟩, ⟨pxb HB⟩⟩
         ·rw [if_neg c11] at H
          exact absurd H (by simp)
        ·rw [if_neg c10] at H
         exact absurd H (by simp)
       ·rw [if_neg c9] at H
        have c9b0 : decide (x32_2 < (l1.length : Int)) = false := decide_eq_false c9
        clear c9
        replace H := Option.bind_eq_some_iff.mp H
        obtain ⟨⟨t361, t362⟩, A170, H⟩ := H
        replace H : ((caulkerref03_Check.f k2 (a0.size : Int) l1).bind fun t365 => (if t365 = 0 then (if 0 ≤ (a0.size : Int) then (if ((a0.size : Int) : Int).toNat ≤ 281474976710656 then ((some (List.replicate ((a0.size : Int) : Int).toNat false : List Bool)).bind fun y366 => (caulkerlaw04_DiffKeeps.l1 k2 l1 t361 t362 y366 (y366.length : Int) 0)) else (none)) else (none)) else (if t362 = t365 then (some ((t361.length : Int) == 0)) else (none)))) = some r := H
        have A17 := Aside0.mk A170
        clear A170
        replace H := Option.bind_eq_some_iff.mp H
        obtain ⟨t365, A180, H⟩ := H
        replace H : (if t365 = 0 then (if 0 ≤ (a0.size : Int) then (if ((a0.size : Int) : Int).toNat ≤ 281474976710656 then ((some (List.replicate ((a0.size : Int) : Int).toNat false : List Bool)).bind fun y366 => (caulkerlaw04_DiffKeeps.l1 k2 l1 t361 t362 y366 (y366.length : Int) 0)) else (none)) else (none)) else (if t362 = t365 then (some ((t361.length : Int) == 0)) else (none))) = some r := H
        have A18 := Aside0.mk A180
        clear A180
        by_cases c19 : t365 = 0
        ·rw [if_pos c19] at H
         have c19b0 : (t365 == 0) = true := beq_iff_eq.mpr c19
         have c19b1 : (t365 != 0) = false := bne_eq_false_iff_eq.mpr c19
         clear c19
         by_cases c20 : 0 ≤ (a0.size : Int)
         ·rw [if_pos c20] at H
          have c20b0 := eq_true c20
          have c20b1 : decide (0 ≤ (a0.size : Int)) = true := decide_eq_true c20
          clear c20
          by_cases c21 : ((a0.size : Int) : Int).toNat ≤ 281474976710656
          ·rw [if_pos c21] at H
           have c21b0 := eq_true c21
           have c21b1 : decide (((a0.size : Int) : Int).toNat ≤ 281474976710656) = true := decide_eq_true c21
           clear c21
           obtain ⟨y366, hy366⟩ : ∃ y_ : List Bool, y_ = (List.replicate ((a0.size : Int) : Int).toNat false) := ⟨_, rfl⟩
           replace H : (caulkerlaw04_DiffKeeps.l1 k2 l1 t361 t362 y366 (y366.length : Int) 0) = some r := by first | (rw [hy366]; with_reducible exact H) | (have H2_ := (Option.bind_some _ _).symm.trans H; rw [hy366]; with_reducible exact H2_) | (have H2_ := (Option.bind_some _ _).symm.trans H; with_reducible exact H2_) | with_reducible exact H | (rw [hy366]; exact H) | exact H
           have Ny366 := Aside0.mk hy366
           clear hy366
           have H' := Aside0.mk H
           clear H
           go_wp2_with (first | (go_at_call 17; (with_reducible refine (diff_Kept.calls k2 a0 _ _ l1 t361 t362 _ ?side1 ?side2 A17.out).mono ?_); (case side1 => exact pxc HR1 HB); (case side2 => exact HC1.out); rintro e w22 ⟨v363, rfl, ho0, hb⟩; have HO364 := Aside0.mk (Kd.R_lower ho0 (below_size (pxb HB))); replace HB := pxs HB hb; (try clear hb); (try clear hb2); (try clear hk); (try clear hi); (try clear ho0)) | (go_at_call 18; (with_reducible refine (caulkerref03_Check.calls k2 (a0.size : Int) _ _ l1 t365 _ ?side1 ?side2 A18.out).mono ?_); (case side1 => exact pxc HR1 HB); (case side2 => exact HC1.out); rintro e w23 ⟨rfl, hb⟩; replace HO364 := Aside0.mk (Kd.R_below (pxr HO364) hb); replace HB := pxs HB hb; (try clear hb); (try clear hb2); (try clear hk); (try clear hi)) | ((with_reducible refine gate_dst (N := 63) rfl ?_); refine Kd.R_make Kd.bool _ 4 rfl (N := 63) rfl 47 _ _ rfl (a0.size : Int) rfl rfl Try.underlying47 (.bool false) 1 info4 rfl (by decide) (by omega) false (ok := fun _ => True) (okp := fun _ => True) rfl (fun _ hk => hk) trivial (pxd) (Nat.le_trans (Nat.mul_le_mul_right _ (pxd : (a0.size : Int).toNat ≤ 281474976710656)) (by omega)) (Below.refl _ _) (Nat.le_refl _) ?_; intro v367 w24 ho25 hb hg_ hnew_; clear hg_ hnew_; (first | rw [← Ny366.out] at ho25 | (simp only [Int.reduceToNat] at ho25; rw [← Ny366.out] at ho25)); have HO368 := Aside0.mk (Kd.R_lower ho25 (below_size (pxb HB))); replace HO364 := Aside0.mk (Kd.R_below (pxr HO364) hb); replace HB := pxs HB hb; clear hb ho25; obtain ⟨Ao26, co26, eo26⟩ := Kd.R_slice HO368.out; subst eo26))
           repeat (go_quiet (fail); try go_wp2_with (first | (go_at_call 17; (with_reducible refine (diff_Kept.calls k2 a0 _ _ l1 t361 t362 _ ?side1 ?side2 A17.out).mono ?_); (case side1 => exact pxc HR1 HB); (case side2 => exact HC1.out); rintro e w22 ⟨v363, rfl, ho0, hb⟩; have HO364 := Aside0.mk (Kd.R_lower ho0 (below_size (pxb HB))); replace HB := pxs HB hb; (try clear hb); (try clear hb2); (try clear hk); (try clear hi); (try clear ho0)) | (go_at_call 18; (with_reducible refine (caulkerref03_Check.calls k2 (a0.size : Int) _ _ l1 t365 _ ?side1 ?side2 A18.out).mono ?_); (case side1 => exact pxc HR1 HB); (case side2 => exact HC1.out); rintro e w23 ⟨rfl, hb⟩; replace HO364 := Aside0.mk (Kd.R_below (pxr HO364) hb); replace HB := pxs HB hb; (try clear hb); (try clear hb2); (try clear hk); (try clear hi)) | ((with_reducible refine gate_dst (N := 63) rfl ?_); refine Kd.R_make Kd.bool _ 4 rfl (N := 63) rfl 47 _ _ rfl (a0.size : Int) rfl rfl Try.underlying47 (.bool false) 1 info4 rfl (by decide) (by omega) false (ok := fun _ => True) (okp := fun _ => True) rfl (fun _ hk => hk) trivial (pxd) (Nat.le_trans (Nat.mul_le_mul_right _ (pxd : (a0.size : Int).toNat ≤ 281474976710656)) (by omega)) (Below.refl _ _) (Nat.le_refl _) ?_; intro v367 w24 ho25 hb hg_ hnew_; clear hg_ hnew_; (first | rw [← Ny366.out] at ho25 | (simp only [Int.reduceToNat] at ho25; rw [← Ny366.out] at ho25)); have HO368 := Aside0.mk (Kd.R_lower ho25 (below_size (pxb HB))); replace HO364 := Aside0.mk (Kd.R_below (pxr HO364) hb); replace HB := pxs HB hb; clear hb ho25; obtain ⟨Ao26, co26, eo26⟩ := Kd.R_slice HO368.out; subst eo26)))
           go_loopg [66] k2 (fun kq v66 w' => ∃ (x10_3 : List Bool) (x66_3 : Int), v66 = .int .i64 x66_3 ∧ Aside0 (caulkerlaw04_DiffKeeps.l1 kq l1 t361 t362 x10_3 (y366.length : Int) x66_3 = some r) ∧ Aside0 (kq ≤ k2) ∧ Aside0 (Kd.R k39 39 w' w.heap.size (fun _ => True) v363 t361) ∧ Aside0 (Kd.R Kd.bool 4 w' w.heap.size (fun _ => True) (.slice Ao26 y366.length co26) x10_3) ∧ Aside0 (Below w.heap.size w w'))
           case atStart => exact ⟨(y366), (0), (by first | rfl | (simp; done) | (simp [*]; done)), H', ⟨Nat.le_refl _⟩, ⟨pxr HO364⟩, ⟨pxr HO368⟩, ⟨pxb HB⟩⟩
           case round =>
            clear H'
            (try clear c1); (try clear c2); (try clear p2); (try clear p3); (try clear q3); (try clear hx3); (try clear c4); (try clear p6); (try clear c7); (try clear c7b0); (try clear c7b1); (try clear c8); (try clear c9); (try clear c9b0); (try clear c10); (try clear c10b0); (try clear c11); (try clear c11b0); (try clear c12); (try clear c12b0); (try clear c12b1); (try clear c19); (try clear c19b0); (try clear c19b1); (try clear c20); (try clear c20b0); (try clear c20b1); (try clear c21); (try clear c21b0); (try clear c21b1); (try clear hcz14_0 hcz14_1 hcz14_2 hfz14_0 hfz14_1 hfz14_2); (try clear hcz16_0 hcz16_1 hcz16_2 hfz16_0 hfz16_1 hfz16_2); (try clear hx359_0); (try clear hx359_1); (try clear hx359_2); (try clear p359); (try clear q359)
            obtain ⟨x10_3, x66_3, rfl, HA, HK3, HO_7, HO_10, HB⟩ := hrel
            have hl10_3 := (Kd.R_reads' HO_10.out).1
            rw [hl10_3] at HO_10
            (try simp only [hl10_3])
            (try simp only [hl10_3] at HO_7)
            cases gk with
            | zero => exact absurd HA.out (by simp [caulkerlaw04_DiffKeeps.l1])
            | succ k3 =>
             have H := HA.out
             clear HA
             simp only [caulkerlaw04_DiffKeeps.l1] at H
             by_cases c27 : x66_3 < (y366.length : Int)
             ·rw [if_pos c27] at H
              have c27b0 : decide (x66_3 < (y366.length : Int)) = true := decide_eq_true c27
              clear c27
              by_cases c28 : 0 ≤ x66_3
              ·rw [if_pos c28] at H
               have c28b0 : decide (0 ≤ x66_3) = true := decide_eq_true c28
               clear c28
               by_cases c29 : x66_3 < (x10_3.length : Int)
               ·rw [if_pos c29] at H
                have c29b0 : decide (x66_3 < (x10_3.length : Int)) = true := decide_eq_true c29
                clear c29
                obtain ⟨y369, hy369⟩ : ∃ y_ : List Bool, y_ = (x10_3.set (x66_3 : Int).toNat true) := ⟨_, rfl⟩
                replace H : (caulkerlaw04_DiffKeeps.l1 k3 l1 t361 t362 y369 (y366.length : Int) (wrap64 (x66_3 + 1))) = some r := by first | (rw [hy369]; with_reducible exact H) | (have H2_ := (Option.bind_some _ _).symm.trans H; rw [hy369]; with_reducible exact H2_) | (have H2_ := (Option.bind_some _ _).symm.trans H; with_reducible exact H2_) | with_reducible exact H | (rw [hy369]; exact H) | exact H
                have Ny369 := Aside0.mk hy369
                clear hy369
                have H' := Aside0.mk H
                clear H
                have p30 : 0 ≤ (x66_3 : Int) := pxd
                have q30 : (x66_3 : Int) < ((x10_3.length : Int) : Int) := pxd
                obtain ⟨go30, co30, eo30, gb30, gl30, cl30, HG30⟩ := Kd.R_form HO_10.out (by omega)
                (first | cases eo30 | (injection eo30 with ea_ en_ ec_; (first | subst ea_ | (injection ea_ with ea_; subst ea_)); subst ec_; clear en_))
                have GB30 := Aside0.mk gb30
                have GG30 := Aside0.mk HG30
                clear gb30 gl30 HG30
                obtain ⟨hx30_0, hf30_0⟩ := Kd.R_celln false HO_10.out (x66_3 : Int) p30 q30
                replace p30 := eq_true p30
                replace q30 := eq_true q30
                have HP31 := Kd.R_putg HO_10.out (x66_3 : Int) true
                go_wp2_with (first | ((with_reducible refine gate_store (t := 4) (p := 71) rfl ?_); (try (rw [drewN_self wr]; generalize hq_ : World.drewN wr _ = wr; have n0_ := Aside0.mk (Kd.R_at hq_ HO_7.out); have n1_ := Aside0.mk (Kd.R_at hq_ HO_10.out); have n2_ := Aside0.mk (below_at hq_ HB.out); clear hq_ HO_7 HO_10 HB; have HO_7 := n0_; have HO_10 := n1_; have HB := n2_; clear n0_ n1_ n2_; (try (have HP31 := Kd.R_putg HO_10.out (x66_3 : Int) true)))); refine store_event (t := 4) (p := 71) (v := ?vo_w32) (w1 := (wr.setCell ⟨go30, (x66_3 : Int).toNat, none⟩ (.bool true))) ?hg ?ho ?hn ?hr ?_; (case ho => rfl); (case hg => rfl); (case hn => rfl); (case hr => first | (go_simp; done) | (go_simp; rfl)); intro w32 hw; have hg : wr.grownBy w32 (some go30) := (by rw [hw]; exact HP31.2); have hp_ : Kd.R Kd.bool 4 w32 w.heap.size (fun _ => True) (.slice (some ⟨go30, 0, none⟩) x10_3.length co26) y369 := (by rw [hw, Ny369.out]; exact HP31.1); clear HP31; replace HO_7 := Aside0.mk (Kd.R_over' (v := (.slice (some ⟨go30, 0, none⟩) x10_3.length co26)) (pxr HO_7) (Kd.R_typed HO_10.out) (by decide) hg); replace HO_10 := Aside0.mk (hp_); replace HB := Aside0.mk ((by rw [hw]; exact below_set (HB.out) GB30.out : Below w.heap.size w w32)); clear hg hw hp_))
                repeat (go_quiet (fail); try go_wp2_with (first | ((with_reducible refine gate_store (t := 4) (p := 71) rfl ?_); (try (rw [drewN_self wr]; generalize hq_ : World.drewN wr _ = wr; have n0_ := Aside0.mk (Kd.R_at hq_ HO_7.out); have n1_ := Aside0.mk (Kd.R_at hq_ HO_10.out); have n2_ := Aside0.mk (below_at hq_ HB.out); clear hq_ HO_7 HO_10 HB; have HO_7 := n0_; have HO_10 := n1_; have HB := n2_; clear n0_ n1_ n2_; (try (have HP31 := Kd.R_putg HO_10.out (x66_3 : Int) true)))); refine store_event (t := 4) (p := 71) (v := ?vo_w32) (w1 := (wr.setCell ⟨go30, (x66_3 : Int).toNat, none⟩ (.bool true))) ?hg ?ho ?hn ?hr ?_; (case ho => rfl); (case hg => rfl); (case hn => rfl); (case hr => first | (go_simp; done) | (go_simp; rfl)); intro w32 hw; have hg : wr.grownBy w32 (some go30) := (by rw [hw]; exact HP31.2); have hp_ : Kd.R Kd.bool 4 w32 w.heap.size (fun _ => True) (.slice (some ⟨go30, 0, none⟩) x10_3.length co26) y369 := (by rw [hw, Ny369.out]; exact HP31.1); clear HP31; replace HO_7 := Aside0.mk (Kd.R_over' (v := (.slice (some ⟨go30, 0, none⟩) x10_3.length co26)) (pxr HO_7) (Kd.R_typed HO_10.out) (by decide) hg); replace HO_10 := Aside0.mk (hp_); replace HB := Aside0.mk ((by rw [hw]; exact below_set (HB.out) GB30.out : Below w.heap.size w w32)); clear hg hw hp_)))
                (try simp only [← hl10_3])
                go_roundg k3
                case measure => have := HJ4.out; have := HK2.out; have := HK3.out; omega
                case rel => exact ⟨(y369), (wrap64 (x66_3 + 1)), (by first | rfl | (simp; done) | (simp [*]; done)), H', ⟨by have := HJ4.out; have := HK2.out; have := HK3.out; omega⟩, ⟨by (try simp only [hl10_3]); (with_reducible repeat (first | apply Kd.R_alloc | apply Kd.R_drewN | apply Kd.R_drew)); exact HO_7.out⟩, ⟨by (try simp only [hl10_3]); (with_reducible repeat (first | apply Kd.R_alloc | apply Kd.R_drewN | apply Kd.R_drew)); exact HO_10.out⟩, ⟨pxb HB⟩⟩
               ·rw [if_neg c29] at H
                exact absurd H (by simp)
              ·rw [if_neg c28] at H
               exact absurd H (by simp)
             ·rw [if_neg c27] at H
              have c27b0 : decide (x66_3 < (y366.length : Int)) = false := decide_eq_false c27
              have c27b9 : decide (x66_3 < (x10_3.length : Int)) = false := by rw [← hl10_3]; exact c27b0
              clear c27
              have H' := Aside0.mk H
              clear H
              go_wp2
              repeat (go_quiet (fail); try go_wp2)
              go_loopg [75] k3 (fun kq v75 w' => ∃ (x10_4 : List Bool) (x75_4 : Int), v75 = .int .i64 x75_4 ∧ Aside0 (caulkerlaw04_DiffKeeps.l2 kq t361 t362 x10_4 l1 (l1.length : Int) x75_4 = some r) ∧ Aside0 (kq ≤ k3) ∧ Aside0 (Kd.R k39 39 w' w.heap.size (fun _ => True) v363 t361) ∧ Aside0 (Kd.R Kd.bool 4 w' w.heap.size (fun _ => True) (.slice Ao26 x10_3.length co26) x10_4) ∧ Aside0 (Below w.heap.size w w'))
              case atStart => exact ⟨(x10_3), (0), (by first | rfl | (simp; done) | (simp [*]; done)), H', ⟨Nat.le_refl _⟩, ⟨by (try simp only [hl10_3]); (with_reducible repeat (first | apply Kd.R_alloc | apply Kd.R_drewN | apply Kd.R_drew)); exact HO_7.out⟩, ⟨by (try simp only [hl10_3]); (with_reducible repeat (first | apply Kd.R_alloc | apply Kd.R_drewN | apply Kd.R_drew)); exact HO_10.out⟩, ⟨pxb HB⟩⟩
              case round =>
               clear H'
               (try clear c1); (try clear c2); (try clear p2); (try clear p3); (try clear q3); (try clear hx3); (try clear hf3); (try clear c4); (try clear p6); (try clear c7); (try clear c7b0); (try clear c7b1); (try clear c8); (try clear c9); (try clear c9b0); (try clear c10); (try clear c10b0); (try clear c11); (try clear c11b0); (try clear c12); (try clear c12b0); (try clear c12b1); (try clear c19); (try clear c19b0); (try clear c19b1); (try clear c20); (try clear c20b0); (try clear c20b1); (try clear c21); (try clear c21b0); (try clear c21b1); (try clear c27); (try clear c27b0); (try clear c28); (try clear c28b0); (try clear c29); (try clear c29b0); (try clear p30); (try clear q30); (try clear hx30); (try clear hf30); (try clear hcz14_0 hcz14_1 hcz14_2 hfz14_0 hfz14_1 hfz14_2); (try clear hcz16_0 hcz16_1 hcz16_2 hfz16_0 hfz16_1 hfz16_2); (try clear hx30_0); (try clear hx359_0); (try clear hx359_1); (try clear hx359_2); (try clear p359); (try clear q359)
               obtain ⟨x10_4, x75_4, rfl, HA, HK4, HO_7, HO_10, HB⟩ := hrel
               have hl10_4 := (Kd.R_reads' HO_10.out).1
               rw [hl10_4] at HO_10
               (try simp only [hl10_4])
               (try simp only [hl10_4] at HO_7)
               cases gk with
               | zero => exact absurd HA.out (by simp [caulkerlaw04_DiffKeeps.l2])
               | succ k4 =>
                have H := HA.out
                clear HA
                simp only [caulkerlaw04_DiffKeeps.l2] at H
                by_cases c33 : x75_4 < (l1.length : Int)
                ·rw [if_pos c33] at H
                 have c33b0 : decide (x75_4 < (l1.length : Int)) = true := decide_eq_true c33
                 clear c33
                 by_cases c34 : 0 ≤ x75_4
                 ·rw [if_pos c34] at H
                  have c34b0 : decide (0 ≤ x75_4) = true := decide_eq_true c34
                  clear c34
                  by_cases c35 : x75_4 < (l1.length : Int)
                  ·rw [if_pos c35] at H
                   have c35b0 : decide (x75_4 < (l1.length : Int)) = true := decide_eq_true c35
                   clear c35
                   have H' := Aside0.mk H
                   clear H
                   have p370 : 0 ≤ (x75_4 : Int) := pxd
                   have q370 : x75_4 < (l1.length : Int) := pxd
                   obtain ⟨ad370, e370, hx370_0, hx370_1, hx370_2⟩ := at_T41 HR1.out x75_4 p370 q370
                   cases e370
                   replace hx370_0 := (HB.out.cell (World.block_lt_of_cell? w _ hx370_0)).trans hx370_0
                   replace hx370_1 := (HB.out.cell (World.block_lt_of_cell? w _ hx370_1)).trans hx370_1
                   replace hx370_2 := (HB.out.cell (World.block_lt_of_cell? w _ hx370_2)).trans hx370_2
                   replace p370 := eq_true p370
                   replace q370 := eq_true q370
                   go_wp2_with (first | ((with_reducible refine gate_dst (N := 13) rfl ?_); refine box_event ?hg (N := 13) ?hd (cs := #[.int .i64 0, .int .i64 0, .string (⟨#[]⟩ : ByteArray)]) (t := 41) ?hr ?_; (case hd => rfl); (case hg => rfl); (case hr => first | (go_simp; done) | (go_simp; rfl)); intro gb371 hg w36 hbox hb; have BK371 := Aside0.mk (hbox); have GW371 := pxw HB hg; have GE371 := pxw HB hg; replace HO_7 := Aside0.mk (Kd.R_below (pxr HO_7) hb); replace HO_10 := Aside0.mk (Kd.R_below (pxr HO_10) hb); replace HB := pxs HB hb; clear hb hbox hg; obtain ⟨hcz37_0, hcz37_1, hcz37_2, hfz37_0, hfz37_1, hfz37_2⟩ := pxf3 BK371))
                   repeat (go_quiet (fail); try go_wp2_with (first | ((with_reducible refine gate_dst (N := 13) rfl ?_); refine box_event ?hg (N := 13) ?hd (cs := #[.int .i64 0, .int .i64 0, .string (⟨#[]⟩ : ByteArray)]) (t := 41) ?hr ?_; (case hd => rfl); (case hg => rfl); (case hr => first | (go_simp; done) | (go_simp; rfl)); intro gb371 hg w36 hbox hb; have BK371 := Aside0.mk (hbox); have GW371 := pxw HB hg; have GE371 := pxw HB hg; replace HO_7 := Aside0.mk (Kd.R_below (pxr HO_7) hb); replace HO_10 := Aside0.mk (Kd.R_below (pxr HO_10) hb); replace HB := pxs HB hb; clear hb hbox hg; obtain ⟨hcz37_0, hcz37_1, hcz37_2, hfz37_0, hfz37_1, hfz37_2⟩ := pxf3 BK371)))
                   go_loopg [14] k4 (fun kq v14 w' => ∃ (x10_5 : List Bool) (x14_5 : Int), v14 = .int .i64 x14_5 ∧ Aside0 (caulkerlaw04_DiffKeeps.l3 kq t361 t362 x10_5 x14_5 l1 (l1.length : Int) x75_4 ((rd_T41 l1 x75_4).f0.f0) ((rd_T41 l1 x75_4).f0.f1) ((rd_T41 l1 x75_4).f1) = some r) ∧ Aside0 (kq ≤ k4) ∧ Aside0 (Kd.R k39 39 w' w.heap.size (fun _ => True) v363 t361) ∧ Aside0 (Kd.R Kd.bool 4 w' w.heap.size (fun _ => True) (.slice Ao26 x10_4.length co26) x10_5) ∧ Aside0 (w'.heap[gb371]? = some (.cells #[.int .i64 ((rd_T41 l1 x75_4).f0.f0), .int .i64 ((rd_T41 l1 x75_4).f0.f1), .string ((rd_T41 l1 x75_4).f1)] 41 (0, 0))) ∧ Aside0 (Below w.heap.size w w'))
                   case atStart => exact ⟨(x10_4), ((rd_T41 l1 x75_4).f0.f0), (by first | rfl | (simp; done) | (simp [*]; done)), H', ⟨Nat.le_refl _⟩, ⟨by (try simp only [hl10_3]); (try simp only [hl10_4]); (with_reducible repeat (first | apply Kd.R_alloc | apply Kd.R_drewN | apply Kd.R_drew)); exact Kd.R_mono (Kd.R_far (p := ⟨gb371, 2, none⟩) (Kd.R_far (p := ⟨gb371, 1, none⟩) (Kd.R_far (p := ⟨gb371, 0, none⟩) (Kd.R_types HO_7.out BK371.out (by decide)) (fun _ hk => hk.2) (.int .i64 ((rd_T41 l1 x75_4).f0.f0))) (fun _ hk => hk.2) (.int .i64 ((rd_T41 l1 x75_4).f0.f1))) (fun _ hk => hk.2) (.string ((rd_T41 l1 x75_4).f1))) (fun _ hk => trivial)⟩, ⟨by (try simp only [hl10_3]); (try simp only [hl10_4]); (with_reducible repeat (first | apply Kd.R_alloc | apply Kd.R_drewN | apply Kd.R_drew)); exact Kd.R_mono (Kd.R_far (p := ⟨gb371, 2, none⟩) (Kd.R_far (p := ⟨gb371, 1, none⟩) (Kd.R_far (p := ⟨gb371, 0, none⟩) (Kd.R_types HO_10.out BK371.out (by decide)) (fun _ hk => hk.2) (.int .i64 ((rd_T41 l1 x75_4).f0.f0))) (fun _ hk => hk.2) (.int .i64 ((rd_T41 l1 x75_4).f0.f1))) (fun _ hk => hk.2) (.string ((rd_T41 l1 x75_4).f1))) (fun _ hk => trivial)⟩, ⟨by (try simp only [hl10_3]); (try simp only [hl10_4]); (with_reducible repeat (first | refine blk_drewN ?_ _ | refine blk_drew ?_ | refine blk_alloc ?_ _)); refine blk_put (cs := #[.int .i64 ((rd_T41 l1 x75_4).f0.f0), .int .i64 ((rd_T41 l1 x75_4).f0.f1), .string (⟨#[]⟩ : ByteArray)]) ?_ 2 _ rfl; (with_reducible repeat (first | refine blk_drewN ?_ _ | refine blk_drew ?_ | refine blk_alloc ?_ _)); refine blk_put (cs := #[.int .i64 ((rd_T41 l1 x75_4).f0.f0), .int .i64 0, .string (⟨#[]⟩ : ByteArray)]) ?_ 1 _ rfl; (with_reducible repeat (first | refine blk_drewN ?_ _ | refine blk_drew ?_ | refine blk_alloc ?_ _)); refine blk_put (cs := #[.int .i64 0, .int .i64 0, .string (⟨#[]⟩ : ByteArray)]) ?_ 0 _ rfl; (with_reducible repeat (first | refine blk_drewN ?_ _ | refine blk_drew ?_ | refine blk_alloc ?_ _)); exact BK371.out⟩, ⟨pxb HB⟩⟩
                   case round =>
                    clear H'
                    (try clear c1); (try clear c2); (try clear p2); (try clear c3); (try clear p3); (try clear q3); (try clear hx3); (try clear hf3); (try clear c4); (try clear p6); (try clear c7); (try clear c7b0); (try clear c7b1); (try clear c8); (try clear c9); (try clear c9b0); (try clear c10); (try clear c10b0); (try clear c11); (try clear c11b0); (try clear c12); (try clear c12b0); (try clear c12b1); (try clear c19); (try clear c19b0); (try clear c19b1); (try clear c20); (try clear c20b0); (try clear c20b1); (try clear c21); (try clear c21b0); (try clear c21b1); (try clear c27); (try clear c27b0); (try clear c28); (try clear c28b0); (try clear c29); (try clear c29b0); (try clear p30); (try clear q30); (try clear hx30); (try clear hf30); (try clear c33); (try clear c33b0); (try clear c34); (try clear c34b0); (try clear c35); (try clear c35b0); (try clear p35); (try clear q35); (try clear hx35); (try clear p37); (try clear q37); (try clear hx37); (try clear hcz14_0 hcz14_1 hcz14_2 hfz14_0 hfz14_1 hfz14_2); (try clear hcz16_0 hcz16_1 hcz16_2 hfz16_0 hfz16_1 hfz16_2); (try clear hcz37_0 hcz37_1 hcz37_2 hfz37_0 hfz37_1 hfz37_2); (try clear hx30_0); (try clear hx359_0); (try clear hx359_1); (try clear hx359_2); (try clear hx370_0); (try clear hx370_1); (try clear hx370_2); (try clear p359); (try clear p370); (try clear q359); (try clear q370)
                    obtain ⟨x10_5, x14_5, rfl, HA, HK5, HO_7, HO_10, BK371, HB⟩ := hrel
                    have hl10_5 := (Kd.R_reads' HO_10.out).1
                    rw [hl10_5] at HO_10
                    (try simp only [hl10_5])
                    (try simp only [hl10_5] at BK371)
                    (try simp only [hl10_5] at HO_7)
                    cases gk with
                    | zero => exact absurd HA.out (by simp [caulkerlaw04_DiffKeeps.l3])
                    | succ k5 =>
                     have H := HA.out
                     clear HA
                     simp only [caulkerlaw04_DiffKeeps.l3] at H
                     by_cases c38 : x14_5 < ((rd_T41 l1 x75_4).f0.f1)
                     ·rw [if_pos c38] at H
                      have c38b0 : decide (x14_5 < ((rd_T41 l1 x75_4).f0.f1)) = true := decide_eq_true c38
                      clear c38
                      by_cases c39 : 0 ≤ x14_5
                      ·rw [if_pos c39] at H
                       have c39b0 : decide (0 ≤ x14_5) = true := decide_eq_true c39
                       clear c39
                       by_cases c40 : x14_5 < (x10_5.length : Int)
                       ·rw [if_pos c40] at H
                        have c40b0 : decide (x14_5 < (x10_5.length : Int)) = true := decide_eq_true c40
                        clear c40
                        obtain ⟨y372, hy372⟩ : ∃ y_ : List Bool, y_ = (x10_5.set (x14_5 : Int).toNat false) := ⟨_, rfl⟩
                        replace H : (caulkerlaw04_DiffKeeps.l3 k5 t361 t362 y372 (wrap64 (x14_5 + 1)) l1 (l1.length : Int) x75_4 ((rd_T41 l1 x75_4).f0.f0) ((rd_T41 l1 x75_4).f0.f1) ((rd_T41 l1 x75_4).f1)) = some r := by first | (rw [hy372]; with_reducible exact H) | (have H2_ := (Option.bind_some _ _).symm.trans H; rw [hy372]; with_reducible exact H2_) | (have H2_ := (Option.bind_some _ _).symm.trans H; with_reducible exact H2_) | with_reducible exact H | (rw [hy372]; exact H) | exact H
                        have Ny372 := Aside0.mk hy372
                        clear hy372
                        have H' := Aside0.mk H
                        clear H
                        have hcz42_0 : wr.cell? ⟨gb371, 0, none⟩ = some (.int .i64 ((rd_T41 l1 x75_4).f0.f0)) := (blk_cell BK371.out 0).trans rfl
                        have hcz42_1 : wr.cell? ⟨gb371, 1, none⟩ = some (.int .i64 ((rd_T41 l1 x75_4).f0.f1)) := (blk_cell BK371.out 1).trans rfl
                        have hcz42_2 : wr.cell? ⟨gb371, 2, none⟩ = some (.string ((rd_T41 l1 x75_4).f1)) := (blk_cell BK371.out 2).trans rfl
                        have hfz42_0 := blk_frozen BK371.out 0
                        have hfz42_1 := blk_frozen BK371.out 1
                        have hfz42_2 := blk_frozen BK371.out 2
                        have p41 : 0 ≤ (x14_5 : Int) := pxd
                        have q41 : (x14_5 : Int) < ((x10_5.length : Int) : Int) := pxd
                        obtain ⟨go41, co41, eo41, gb41, gl41, cl41, HG41⟩ := Kd.R_form HO_10.out (by omega)
                        (first | cases eo41 | (injection eo41 with ea_ en_ ec_; (first | subst ea_ | (injection ea_ with ea_; subst ea_)); subst ec_; clear en_))
                        have GB41 := Aside0.mk gb41
                        have GG41 := Aside0.mk HG41
                        clear gb41 gl41 HG41
                        obtain ⟨hx41_0, hf41_0⟩ := Kd.R_celln false HO_10.out (x14_5 : Int) p41 q41
                        replace p41 := eq_true p41
                        replace q41 := eq_true q41
                        have HP43 := Kd.R_putg HO_10.out (x14_5 : Int) false
                        go_wp2_with (first | ((with_reducible refine gate_store (t := 4) (p := 91) rfl ?_); (try (rw [drewN_self wr]; generalize hq_ : World.drewN wr _ = wr; have n0_ := Aside0.mk (Kd.R_at hq_ HO_7.out); have n1_ := Aside0.mk (Kd.R_at hq_ HO_10.out); have n2_ := Aside0.mk (blk_at hq_ BK371.out); have n3_ := Aside0.mk (below_at hq_ HB.out); clear hq_ HO_7 HO_10 BK371 HB; have HO_7 := n0_; have HO_10 := n1_; have BK371 := n2_; have HB := n3_; clear n0_ n1_ n2_ n3_; (try (have HP43 := Kd.R_putg HO_10.out (x14_5 : Int) false)))); refine store_event (t := 4) (p := 91) (v := ?vo_w44) (w1 := (wr.setCell ⟨go41, (x14_5 : Int).toNat, none⟩ (.bool false))) ?hg ?ho ?hn ?hr ?_; (case ho => rfl); (case hg => rfl); (case hn => rfl); (case hr => first | (go_simp; done) | (go_simp; rfl)); intro w44 hw; have hg : wr.grownBy w44 (some go41) := (by rw [hw]; exact HP43.2); have hp_ : Kd.R Kd.bool 4 w44 w.heap.size (fun _ => True) (.slice (some ⟨go41, 0, none⟩) x10_5.length co26) y372 := (by rw [hw, Ny372.out]; exact HP43.1); clear HP43; replace HO_7 := Aside0.mk (Kd.R_over' (v := (.slice (some ⟨go41, 0, none⟩) x10_5.length co26)) (pxr HO_7) (Kd.R_typed HO_10.out) (by decide) hg); replace BK371 := Aside0.mk (blk_grown (g := gb371) (o := .cells #[.int .i64 ((rd_T41 l1 x75_4).f0.f0), .int .i64 ((rd_T41 l1 x75_4).f0.f1), .string ((rd_T41 l1 x75_4).f1)] 41 (0, 0)) (pxq BK371) hg (Kd.R_ne HO_10.out BK371.out (by decide))); replace HO_10 := Aside0.mk (hp_); replace HB := Aside0.mk ((by rw [hw]; exact below_set (HB.out) GB41.out : Below w.heap.size w w44)); clear hg hw hp_))
                        repeat (go_quiet (fail); try go_wp2_with (first | ((with_reducible refine gate_store (t := 4) (p := 91) rfl ?_); (try (rw [drewN_self wr]; generalize hq_ : World.drewN wr _ = wr; have n0_ := Aside0.mk (Kd.R_at hq_ HO_7.out); have n1_ := Aside0.mk (Kd.R_at hq_ HO_10.out); have n2_ := Aside0.mk (blk_at hq_ BK371.out); have n3_ := Aside0.mk (below_at hq_ HB.out); clear hq_ HO_7 HO_10 BK371 HB; have HO_7 := n0_; have HO_10 := n1_; have BK371 := n2_; have HB := n3_; clear n0_ n1_ n2_ n3_; (try (have HP43 := Kd.R_putg HO_10.out (x14_5 : Int) false)))); refine store_event (t := 4) (p := 91) (v := ?vo_w44) (w1 := (wr.setCell ⟨go41, (x14_5 : Int).toNat, none⟩ (.bool false))) ?hg ?ho ?hn ?hr ?_; (case ho => rfl); (case hg => rfl); (case hn => rfl); (case hr => first | (go_simp; done) | (go_simp; rfl)); intro w44 hw; have hg : wr.grownBy w44 (some go41) := (by rw [hw]; exact HP43.2); have hp_ : Kd.R Kd.bool 4 w44 w.heap.size (fun _ => True) (.slice (some ⟨go41, 0, none⟩) x10_5.length co26) y372 := (by rw [hw, Ny372.out]; exact HP43.1); clear HP43; replace HO_7 := Aside0.mk (Kd.R_over' (v := (.slice (some ⟨go41, 0, none⟩) x10_5.length co26)) (pxr HO_7) (Kd.R_typed HO_10.out) (by decide) hg); replace BK371 := Aside0.mk (blk_grown (g := gb371) (o := .cells #[.int .i64 ((rd_T41 l1 x75_4).f0.f0), .int .i64 ((rd_T41 l1 x75_4).f0.f1), .string ((rd_T41 l1 x75_4).f1)] 41 (0, 0)) (pxq BK371) hg (Kd.R_ne HO_10.out BK371.out (by decide))); replace HO_10 := Aside0.mk (hp_); replace HB := Aside0.mk ((by rw [hw]; exact below_set (HB.out) GB41.out : Below w.heap.size w w44)); clear hg hw hp_)))
                        (try simp only [← hl10_5])
                        go_roundg k5
                        case measure => have := HJ4.out; have := HK2.out; have := HK3.out; have := HK4.out; have := HK5.out; omega
                        case rel => exact ⟨(y372), (wrap64 (x14_5 + 1)), (by first | rfl | (simp; done) | (simp [*]; done)), H', ⟨by have := HJ4.out; have := HK2.out; have := HK3.out; have := HK4.out; have := HK5.out; omega⟩, ⟨by (try simp only [hl10_3]); (try simp only [hl10_4]); (try simp only [hl10_5]); (with_reducible repeat (first | apply Kd.R_alloc | apply Kd.R_drewN | apply Kd.R_drew)); exact HO_7.out⟩, ⟨by (try simp only [hl10_3]); (try simp only [hl10_4]); (try simp only [hl10_5]); (with_reducible repeat (first | apply Kd.R_alloc | apply Kd.R_drewN | apply Kd.R_drew)); exact HO_10.out⟩, ⟨by (try simp only [hl10_3]); (try simp only [hl10_4]); (try simp only [hl10_5]); (with_reducible repeat (first | refine blk_drewN ?_ _ | refine blk_drew ?_ | refine blk_alloc ?_ _)); exact BK371.out⟩, ⟨pxb HB⟩⟩
                       ·rw [if_neg c40] at H
                        exact absurd H (by simp)
                      ·rw [if_neg c39] at H
                       exact absurd H (by simp)
                     ·rw [if_neg c38] at H
                      have c38b0 : decide (x14_5 < ((rd_T41 l1 x75_4).f0.f1)) = false := decide_eq_false c38
                      clear c38
                      have H' := Aside0.mk H
                      clear H
                      have hcz45_0 : wr.cell? ⟨gb371, 0, none⟩ = some (.int .i64 ((rd_T41 l1 x75_4).f0.f0)) := (blk_cell BK371.out 0).trans rfl
                      have hcz45_1 : wr.cell? ⟨gb371, 1, none⟩ = some (.int .i64 ((rd_T41 l1 x75_4).f0.f1)) := (blk_cell BK371.out 1).trans rfl
                      have hcz45_2 : wr.cell? ⟨gb371, 2, none⟩ = some (.string ((rd_T41 l1 x75_4).f1)) := (blk_cell BK371.out 2).trans rfl
                      have hfz45_0 := blk_frozen BK371.out 0
                      have hfz45_1 := blk_frozen BK371.out 1
                      have hfz45_2 := blk_frozen BK371.out 2
                      go_wp2
                      repeat (go_quiet (fail); try go_wp2)
                      (try simp only [← hl10_4, ← hl10_5])
                      go_roundg k5
                      case measure => have := HJ4.out; have := HK2.out; have := HK3.out; have := HK4.out; have := HK5.out; omega
                      case rel => exact ⟨(x10_5), (wrap64 (x75_4 + 1)), (by first | rfl | (simp; done) | (simp [*]; done)), H', ⟨by have := HJ4.out; have := HK2.out; have := HK3.out; have := HK4.out; have := HK5.out; omega⟩, ⟨by (try simp only [hl10_3]); (try simp only [hl10_4]); (try simp only [hl10_5]); (with_reducible repeat (first | apply Kd.R_alloc | apply Kd.R_drewN | apply Kd.R_drew)); exact HO_7.out⟩, ⟨by (try simp only [hl10_3]); (try simp only [hl10_4]); (try simp only [hl10_5]); (with_reducible repeat (first | apply Kd.R_alloc | apply Kd.R_drewN | apply Kd.R_drew)); exact HO_10.out⟩, ⟨pxb HB⟩⟩
                  ·rw [if_neg c35] at H
                   exact absurd H (by simp)
                 ·rw [if_neg c34] at H
                  exact absurd H (by simp)
                ·rw [if_neg c33] at H
                 have c33b0 : decide (x75_4 < (l1.length : Int)) = false := decide_eq_false c33
                 clear c33
                 have H' := Aside0.mk H
                 clear H
                 obtain ⟨Ao46, co46, eo46⟩ := Kd.R_slice HO_7.out
                 subst eo46
                 go_wp2
                 repeat (go_quiet (fail); try go_wp2)
                 go_loopg [95] k4 (fun kq v95 w' => ∃ (x10_5 : List Bool) (x95_5 : Int), v95 = .int .i64 x95_5 ∧ Aside0 (caulkerlaw04_DiffKeeps.l4 kq t361 t362 x10_5 t361 (t361.length : Int) x95_5 = some r) ∧ Aside0 (kq ≤ k4) ∧ Aside0 (Kd.R k39 39 w' w.heap.size (fun _ => True) (.slice Ao46 t361.length co46) t361) ∧ Aside0 (Kd.R Kd.bool 4 w' w.heap.size (fun _ => True) (.slice Ao26 x10_4.length co26) x10_5) ∧ Aside0 (Kd.R k39 39 w' w.heap.size (fun _ => True) (.slice Ao46 t361.length co46) t361) ∧ Aside0 (Below w.heap.size w w'))
                 case atStart => exact ⟨(x10_4), (0), (by first | rfl | (simp; done) | (simp [*]; done)), H', ⟨Nat.le_refl _⟩, ⟨by (try simp only [hl10_3]); (try simp only [hl10_4]); (with_reducible repeat (first | apply Kd.R_alloc | apply Kd.R_drewN | apply Kd.R_drew)); exact HO_7.out⟩, ⟨by (try simp only [hl10_3]); (try simp only [hl10_4]); (with_reducible repeat (first | apply Kd.R_alloc | apply Kd.R_drewN | apply Kd.R_drew)); exact HO_10.out⟩, ⟨by (try simp only [hl10_3]); (try simp only [hl10_4]); (with_reducible repeat (first | apply Kd.R_alloc | apply Kd.R_drewN | apply Kd.R_drew)); exact HO_7.out⟩, ⟨pxb HB⟩⟩
                 case round =>
                  clear H'
                  (try clear c1); (try clear c2); (try clear p2); (try clear c3); (try clear p3); (try clear q3); (try clear hx3); (try clear hf3); (try clear c4); (try clear p4); (try clear q4); (try clear hx4); (try clear hf4); (try clear p6); (try clear c7); (try clear c7b0); (try clear c7b1); (try clear c8); (try clear c9); (try clear c9b0); (try clear c10); (try clear c10b0); (try clear c11); (try clear c11b0); (try clear c12); (try clear c12b0); (try clear c12b1); (try clear c19); (try clear c19b0); (try clear c19b1); (try clear c20); (try clear c20b0); (try clear c20b1); (try clear c21); (try clear c21b0); (try clear c21b1); (try clear c27); (try clear c27b0); (try clear c28); (try clear c28b0); (try clear c29); (try clear c29b0); (try clear p30); (try clear q30); (try clear hx30); (try clear hf30); (try clear c33); (try clear c33b0); (try clear c34); (try clear c34b0); (try clear c35); (try clear c35b0); (try clear p35); (try clear q35); (try clear hx35); (try clear p37); (try clear q37); (try clear hx37); (try clear c38); (try clear c38b0); (try clear c39); (try clear c39b0); (try clear c40); (try clear c40b0); (try clear p41); (try clear q41); (try clear hx41); (try clear hf41); (try clear hcz14_0 hcz14_1 hcz14_2 hfz14_0 hfz14_1 hfz14_2); (try clear hcz16_0 hcz16_1 hcz16_2 hfz16_0 hfz16_1 hfz16_2); (try clear hcz37_0 hcz37_1 hcz37_2 hfz37_0 hfz37_1 hfz37_2); (try clear hcz42_0 hcz42_1 hcz42_2 hfz42_0 hfz42_1 hfz42_2); (try clear hcz45_0 hcz45_1 hcz45_2 hfz45_0 hfz45_1 hfz45_2); (try clear hx30_0); (try clear hx359_0); (try clear hx359_1); (try clear hx359_2); (try clear hx370_0); (try clear hx370_1); (try clear hx370_2); (try clear hx41_0); (try clear p359); (try clear p370); (try clear q359); (try clear q370)
                  obtain ⟨x10_5, x95_5, rfl, HA, HK5, HO_7, HO_10, HO_93, HB⟩ := hrel
                  have hl10_5 := (Kd.R_reads' HO_10.out).1
                  rw [hl10_5] at HO_10
                  (try simp only [hl10_5])
                  (try simp only [hl10_5] at HO_7)
                  (try simp only [hl10_5] at HO_93)
                  cases gk with
                  | zero => exact absurd HA.out (by simp [caulkerlaw04_DiffKeeps.l4])
                  | succ k5 =>
                   have H := HA.out
                   clear HA
                   simp only [caulkerlaw04_DiffKeeps.l4] at H
                   by_cases c47 : x95_5 < (t361.length : Int)
                   ·rw [if_pos c47] at H
                    have c47b0 : decide (x95_5 < (t361.length : Int)) = true := decide_eq_true c47
                    clear c47
                    by_cases c48 : 0 ≤ x95_5
                    ·rw [if_pos c48] at H
                     have c48b0 : decide (0 ≤ x95_5) = true := decide_eq_true c48
                     clear c48
                     by_cases c49 : x95_5 < (t361.length : Int)
                     ·rw [if_pos c49] at H
                      have c49b0 : decide (x95_5 < (t361.length : Int)) = true := decide_eq_true c49
                      clear c49
                      have HC50 := Aside0.mk H
                      clear H
                      have p373 : 0 ≤ (x95_5 : Int) := pxd
                      have q373 : x95_5 < (t361.length : Int) := pxd
                      obtain ⟨ad373, e373, hx373_0, hx373_1⟩ := at_T39 (Kd.R_reads' HO_93.out).2.2 x95_5 p373 q373
                      cases e373
                      replace p373 := eq_true p373
                      replace q373 := eq_true q373
                      go_upto_region 32 with (first | ((with_reducible refine gate_dst (N := 16) rfl ?_); refine box_event ?hg (N := 16) ?hd (cs := #[.int .i64 0, .int .i64 0]) (t := 39) ?hr ?_; (case hd => rfl); (case hg => rfl); (case hr => first | (go_simp; done) | (go_simp; rfl)); intro gb374 hg w51 hbox hb; have BK374 := Aside0.mk (hbox); have GW374 := pxw HB hg; have GE374 := pxw HB hg; replace HO_7 := Aside0.mk (Kd.R_below (Kd.R_elderB (pxr HO_7) gb374 (Nat.le_of_eq hg.symm)) hb); replace HO_10 := Aside0.mk (Kd.R_below (pxr HO_10) hb); replace HO_93 := Aside0.mk (Kd.R_below (Kd.R_elderB (pxr HO_93) gb374 (Nat.le_of_eq hg.symm)) hb); replace HB := pxs HB hb; clear hb hbox hg; obtain ⟨hcz52_0, hcz52_1, hfz52_0, hfz52_1⟩ := pxf2 BK374))
                      repeat (go_quiet (fail); go_upto_region 32 with (first | ((with_reducible refine gate_dst (N := 16) rfl ?_); refine box_event ?hg (N := 16) ?hd (cs := #[.int .i64 0, .int .i64 0]) (t := 39) ?hr ?_; (case hd => rfl); (case hg => rfl); (case hr => first | (go_simp; done) | (go_simp; rfl)); intro gb374 hg w51 hbox hb; have BK374 := Aside0.mk (hbox); have GW374 := pxw HB hg; have GE374 := pxw HB hg; replace HO_7 := Aside0.mk (Kd.R_below (Kd.R_elderB (pxr HO_7) gb374 (Nat.le_of_eq hg.symm)) hb); replace HO_10 := Aside0.mk (Kd.R_below (pxr HO_10) hb); replace HO_93 := Aside0.mk (Kd.R_below (Kd.R_elderB (pxr HO_93) gb374 (Nat.le_of_eq hg.symm)) hb); replace HB := pxs HB hb; clear hb hbox hg; obtain ⟨hcz52_0, hcz52_1, hfz52_0, hfz52_1⟩ := pxf2 BK374)))
                      (try simp only [Act.put, List.setIfInBounds_toArray, List.set_cons_zero, List.set_cons_succ])
                      go_cut [119] (fun v119 wc => ∃ (kq : Nat) (x119_49 : Bool), v119 = .bool x119_49 ∧ Aside0 (caulkerlaw04_DiffKeeps.j6 kq t361 t362 x10_5 t361 (t361.length : Int) x95_5 x119_49 ((rd_T39 t361 x95_5).f0) ((rd_T39 t361 x95_5).f1) = some r) ∧ Aside0 (kq ≤ k5) ∧ Aside0 (Kd.R k39 39 wc w.heap.size (fun k_ => k_ ≠ gb374) (.slice (some ad373) t361.length co46) t361) ∧ Aside0 (Kd.R Kd.bool 4 wc w.heap.size (fun _ => True) (.slice Ao26 x10_5.length co26) x10_5) ∧ Aside0 (Kd.R k39 39 wc w.heap.size (fun k_ => k_ ≠ gb374) (.slice (some ad373) t361.length co46) t361) ∧ Aside0 (wc.heap[gb374]? = some (.cells #[.int .i64 ((rd_T39 t361 x95_5).f0), .int .i64 ((rd_T39 t361 x95_5).f1)] 39 (0, 0))) ∧ Aside0 (Below w.heap.size w wc))
                      case first =>
                       have H := HC50.out
                       clear HC50
                       by_cases c53 : ((rd_T39 t361 x95_5).f1) ≤ ((rd_T39 t361 x95_5).f0)
                       ·rw [if_pos c53] at H
                        have c53b0 : decide (((rd_T39 t361 x95_5).f1) ≤ ((rd_T39 t361 x95_5).f0)) = true := decide_eq_true c53
                        clear c53
                        (first | rw [c53b0] | (simp only [i64_w, i32_w]; rw [c53b0]) | skip)
                        have H' := Aside0.mk H
                        clear H
                        have hcz54_0 : w51.cell? ⟨gb374, 0, none⟩ = some (.int .i64 0) := (blk_cell BK374.out 0).trans rfl
                        have hcz54_1 : w51.cell? ⟨gb374, 1, none⟩ = some (.int .i64 0) := (blk_cell BK374.out 1).trans rfl
                        have hfz54_0 := blk_frozen BK374.out 0
                        have hfz54_1 := blk_frozen BK374.out 1
                        go_wp2
                        repeat (go_quiet (fail); try go_wp2)
                        go_meet
                        case rel => exact ⟨_, (true), (by first | rfl | (simp; done) | (simp [*]; done)), H', ⟨by have := HJ4.out; have := HK2.out; have := HK3.out; have := HK4.out; have := HK5.out; first | omega | exact Nat.le_refl _⟩, ⟨by (try simp only [hl10_3]); (try simp only [hl10_4]); (try simp only [hl10_5]); (with_reducible repeat (first | apply Kd.R_alloc | apply Kd.R_drewN | apply Kd.R_drew)); exact Kd.R_mono (Kd.R_far (p := ⟨gb374, 1, none⟩) (Kd.R_far (p := ⟨gb374, 0, none⟩) (Kd.R_mono HO_7.out (fun k_ hk => (⟨hk, hk.2⟩ : _ ∧ k_ ≠ gb374))) (fun _ hk => hk.2) (.int .i64 ((rd_T39 t361 x95_5).f0))) (fun _ hk => hk.2) (.int .i64 ((rd_T39 t361 x95_5).f1))) (fun _ hk => hk.1.2)⟩, ⟨by (try simp only [hl10_3]); (try simp only [hl10_4]); (try simp only [hl10_5]); (with_reducible repeat (first | apply Kd.R_alloc | apply Kd.R_drewN | apply Kd.R_drew)); exact Kd.R_mono (Kd.R_far (p := ⟨gb374, 1, none⟩) (Kd.R_far (p := ⟨gb374, 0, none⟩) (Kd.R_types HO_10.out BK374.out (by decide)) (fun _ hk => hk.2) (.int .i64 ((rd_T39 t361 x95_5).f0))) (fun _ hk => hk.2) (.int .i64 ((rd_T39 t361 x95_5).f1))) (fun _ hk => trivial)⟩, ⟨by (try simp only [hl10_3]); (try simp only [hl10_4]); (try simp only [hl10_5]); (with_reducible repeat (first | apply Kd.R_alloc | apply Kd.R_drewN | apply Kd.R_drew)); exact Kd.R_mono (Kd.R_far (p := ⟨gb374, 1, none⟩) (Kd.R_far (p := ⟨gb374, 0, none⟩) (Kd.R_mono HO_93.out (fun k_ hk => (⟨hk, hk.2⟩ : _ ∧ k_ ≠ gb374))) (fun _ hk => hk.2) (.int .i64 ((rd_T39 t361 x95_5).f0))) (fun _ hk => hk.2) (.int .i64 ((rd_T39 t361 x95_5).f1))) (fun _ hk => hk.1.2)⟩, ⟨by (try simp only [hl10_3]); (try simp only [hl10_4]); (try simp only [hl10_5]); (with_reducible repeat (first | refine blk_drewN ?_ _ | refine blk_drew ?_ | refine blk_alloc ?_ _)); refine blk_put (cs := #[.int .i64 ((rd_T39 t361 x95_5).f0), .int .i64 0]) ?_ 1 _ rfl; (with_reducible repeat (first | refine blk_drewN ?_ _ | refine blk_drew ?_ | refine blk_alloc ?_ _)); refine blk_put (cs := #[.int .i64 0, .int .i64 0]) ?_ 0 _ rfl; (with_reducible repeat (first | refine blk_drewN ?_ _ | refine blk_drew ?_ | refine blk_alloc ?_ _)); exact BK374.out⟩, ⟨pxb HB⟩⟩
                       ·rw [if_neg c53] at H
                        have c53b0 : decide (((rd_T39 t361 x95_5).f1) ≤ ((rd_T39 t361 x95_5).f0)) = false := decide_eq_false c53
                        clear c53
                        (first | rw [c53b0] | (simp only [i64_w, i32_w]; rw [c53b0]) | skip)
                        by_cases c55 : x95_5 > 0
                        ·rw [if_pos c55] at H
                         have c55b0 : decide (0 < x95_5) = true := decide_eq_true c55
                         clear c55
                         obtain ⟨ji56, hji56⟩ : ∃ j_ : Int, (wrap64 (x95_5 - 1)) = j_ := ⟨_, rfl⟩
                         replace H : (if 0 ≤ (ji56) then (if (ji56) < (t361.length : Int) then (caulkerlaw04_DiffKeeps.j6 k5 t361 t362 x10_5 t361 (t361.length : Int) x95_5 (decide (((rd_T39 t361 (ji56)).f1) ≥ ((rd_T39 t361 x95_5).f0))) ((rd_T39 t361 x95_5).f0) ((rd_T39 t361 x95_5).f1)) else (none)) else (none)) = some r := by first | (rw [hji56] at H; exact H) | (simp only [hji56] at H ⊢; exact H)
                         have hji56w : (IntKind.i64.wrap (x95_5 - 1)) = ji56 := (i64_w _).trans hji56
                         by_cases c57 : 0 ≤ (ji56)
                         ·rw [if_pos c57] at H
                          have c57b0 : decide (0 ≤ (ji56)) = true := decide_eq_true c57
                          clear c57
                          by_cases c58 : (ji56) < (t361.length : Int)
                          ·rw [if_pos c58] at H
                           have c58b0 : decide ((ji56) < (t361.length : Int)) = true := decide_eq_true c58
                           clear c58
                           have H' := Aside0.mk H
                           clear H
                           have hcz59_0 : w51.cell? ⟨gb374, 0, none⟩ = some (.int .i64 0) := (blk_cell BK374.out 0).trans rfl
                           have hcz59_1 : w51.cell? ⟨gb374, 1, none⟩ = some (.int .i64 0) := (blk_cell BK374.out 1).trans rfl
                           have hfz59_0 := blk_frozen BK374.out 0
                           have hfz59_1 := blk_frozen BK374.out 1
                           have p375 : 0 ≤ ((ji56) : Int) := pxd
                           have q375 : (ji56) < (t361.length : Int) := pxd
                           obtain ⟨ad375, e375, hx375_0, hx375_1⟩ := at_T39 (Kd.R_reads' HO_7.out).2.2 (ji56) p375 q375
                           obtain rfl : ad373 = ad375 := (by injection e375)
                           have hn375_0 : ad373.block ≠ gb374 := Kd.own_blk (by first | exact Kd.R_ne HO_7.out BK374.out (by decide) | exact pxne HO_7)
                           have hn375_1 : ad373.block ≠ gb374 := Kd.own_blk (by first | exact Kd.R_ne HO_7.out BK374.out (by decide) | exact pxne HO_7)
                           replace hx375_0 := (cell_far (p := ⟨gb374, 0, none⟩) (by first | (rw [add_block]; exact hn375_0) | (show (Addr.add _ _).block ≠ _; rw [add_block]; exact hn375_0) | exact hn375_0) (.int .i64 ((rd_T39 t361 x95_5).f0))).trans hx375_0
                           replace hx375_1 := (cell_far (p := ⟨gb374, 0, none⟩) (by first | (rw [add_block]; exact hn375_0) | (show (Addr.add _ _).block ≠ _; rw [add_block]; exact hn375_0) | exact hn375_0) (.int .i64 ((rd_T39 t361 x95_5).f0))).trans hx375_1
                           replace hx375_0 := (cell_far (p := ⟨gb374, 1, none⟩) (by first | (rw [add_block]; exact hn375_1) | (show (Addr.add _ _).block ≠ _; rw [add_block]; exact hn375_1) | exact hn375_1) (.int .i64 ((rd_T39 t361 x95_5).f1))).trans hx375_0
                           replace hx375_1 := (cell_far (p := ⟨gb374, 1, none⟩) (by first | (rw [add_block]; exact hn375_1) | (show (Addr.add _ _).block ≠ _; rw [add_block]; exact hn375_1) | exact hn375_1) (.int .i64 ((rd_T39 t361 x95_5).f1))).trans hx375_1
                           (try have hy375_0 := fun (n_ : Nat) => (show ((((w51.drewN n_).setCell ⟨gb374, 0, none⟩ (.int .i64 ((rd_T39 t361 x95_5).f0))).setCell ⟨gb374, 1, none⟩ (.int .i64 ((rd_T39 t361 x95_5).f1)))).cell? _ = some _ from hx375_0))
                           (try have hy375_1 := fun (n_ : Nat) => (show ((((w51.drewN n_).setCell ⟨gb374, 0, none⟩ (.int .i64 ((rd_T39 t361 x95_5).f0))).setCell ⟨gb374, 1, none⟩ (.int .i64 ((rd_T39 t361 x95_5).f1)))).cell? _ = some _ from hx375_1))
                           clear hn375_0
                           clear hn375_1
                           replace p375 := eq_true p375
                           replace q375 := eq_true q375
                           go_wp2
                           repeat (go_quiet (fail); try go_wp2)
                           go_meet
                           case rel => exact ⟨_, (decide (((rd_T39 t361 (ji56)).f1) ≥ ((rd_T39 t361 x95_5).f0))), (by first | rfl | (simp; done) | (simp only [← hji56] <;> (first | rfl | simp)) | (simp [*]; done)), H', ⟨by have := HJ4.out; have := HK2.out; have := HK3.out; have := HK4.out; have := HK5.out; first | omega | exact Nat.le_refl _⟩, ⟨by (try simp only [hl10_3]); (try simp only [hl10_4]); (try simp only [hl10_5]); (with_reducible repeat (first | apply Kd.R_alloc | apply Kd.R_drewN | apply Kd.R_drew)); exact Kd.R_mono (Kd.R_far (p := ⟨gb374, 1, none⟩) (Kd.R_far (p := ⟨gb374, 0, none⟩) (Kd.R_mono HO_7.out (fun k_ hk => (⟨hk, hk.2⟩ : _ ∧ k_ ≠ gb374))) (fun _ hk => hk.2) (.int .i64 ((rd_T39 t361 x95_5).f0))) (fun _ hk => hk.2) (.int .i64 ((rd_T39 t361 x95_5).f1))) (fun _ hk => hk.1.2)⟩, ⟨by (try simp only [hl10_3]); (try simp only [hl10_4]); (try simp only [hl10_5]); (with_reducible repeat (first | apply Kd.R_alloc | apply Kd.R_drewN | apply Kd.R_drew)); exact Kd.R_mono (Kd.R_far (p := ⟨gb374, 1, none⟩) (Kd.R_far (p := ⟨gb374, 0, none⟩) (Kd.R_types HO_10.out BK374.out (by decide)) (fun _ hk => hk.2) (.int .i64 ((rd_T39 t361 x95_5).f0))) (fun _ hk => hk.2) (.int .i64 ((rd_T39 t361 x95_5).f1))) (fun _ hk => trivial)⟩, ⟨by (try simp only [hl10_3]); (try simp only [hl10_4]); (try simp only [hl10_5]); (with_reducible repeat (first | apply Kd.R_alloc | apply Kd.R_drewN | apply Kd.R_drew)); exact Kd.R_mono (Kd.R_far (p := ⟨gb374, 1, none⟩) (Kd.R_far (p := ⟨gb374, 0, none⟩) (Kd.R_mono HO_93.out (fun k_ hk => (⟨hk, hk.2⟩ : _ ∧ k_ ≠ gb374))) (fun _ hk => hk.2) (.int .i64 ((rd_T39 t361 x95_5).f0))) (fun _ hk => hk.2) (.int .i64 ((rd_T39 t361 x95_5).f1))) (fun _ hk => hk.1.2)⟩, ⟨by (try simp only [hl10_3]); (try simp only [hl10_4]); (try simp only [hl10_5]); (with_reducible repeat (first | refine blk_drewN ?_ _ | refine blk_drew ?_ | refine blk_alloc ?_ _)); refine blk_put (cs := #[.int .i64 ((rd_T39 t361 x95_5).f0), .int .i64 0]) ?_ 1 _ rfl; (with_reducible repeat (first | refine blk_drewN ?_ _ | refine blk_drew ?_ | refine blk_alloc ?_ _)); refine blk_put (cs := #[.int .i64 0, .int .i64 0]) ?_ 0 _ rfl; (with_reducible repeat (first | refine blk_drewN ?_ _ | refine blk_drew ?_ | refine blk_alloc ?_ _)); exact BK374.out⟩, ⟨pxb HB⟩⟩
                          ·rw [if_neg c58] at H
                           exact absurd H (by simp)
                         ·rw [if_neg c57] at H
                          exact absurd H (by simp)
                        ·rw [if_neg c55] at H
                         have c55b0 : decide (0 < x95_5) = false := decide_eq_false c55
                         clear c55
                         have H' := Aside0.mk H
                         clear H
                         have hcz60_0 : w51.cell? ⟨gb374, 0, none⟩ = some (.int .i64 0) := (blk_cell BK374.out 0).trans rfl
                         have hcz60_1 : w51.cell? ⟨gb374, 1, none⟩ = some (.int .i64 0) := (blk_cell BK374.out 1).trans rfl
                         have hfz60_0 := blk_frozen BK374.out 0
                         have hfz60_1 := blk_frozen BK374.out 1
                         go_wp2
                         repeat (go_quiet (fail); try go_wp2)
                         go_meet
                         case rel => exact ⟨_, (false), (by first | rfl | (simp; done) | (simp [*]; done)), H', ⟨by have := HJ4.out; have := HK2.out; have := HK3.out; have := HK4.out; have := HK5.out; first | omega | exact Nat.le_refl _⟩, ⟨by (try simp only [hl10_3]); (try simp only [hl10_4]); (try simp only [hl10_5]); (with_reducible repeat (first | apply Kd.R_alloc | apply Kd.R_drewN | apply Kd.R_drew)); exact Kd.R_mono (Kd.R_far (p := ⟨gb374, 1, none⟩) (Kd.R_far (p := ⟨gb374, 0, none⟩) (Kd.R_mono HO_7.out (fun k_ hk => (⟨hk, hk.2⟩ : _ ∧ k_ ≠ gb374))) (fun _ hk => hk.2) (.int .i64 ((rd_T39 t361 x95_5).f0))) (fun _ hk => hk.2) (.int .i64 ((rd_T39 t361 x95_5).f1))) (fun _ hk => hk.1.2)⟩, ⟨by (try simp only [hl10_3]); (try simp only [hl10_4]); (try simp only [hl10_5]); (with_reducible repeat (first | apply Kd.R_alloc | apply Kd.R_drewN | apply Kd.R_drew)); exact Kd.R_mono (Kd.R_far (p := ⟨gb374, 1, none⟩) (Kd.R_far (p := ⟨gb374, 0, none⟩) (Kd.R_types HO_10.out BK374.out (by decide)) (fun _ hk => hk.2) (.int .i64 ((rd_T39 t361 x95_5).f0))) (fun _ hk => hk.2) (.int .i64 ((rd_T39 t361 x95_5).f1))) (fun _ hk => trivial)⟩, ⟨by (try simp only [hl10_3]); (try simp only [hl10_4]); (try simp only [hl10_5]); (with_reducible repeat (first | apply Kd.R_alloc | apply Kd.R_drewN | apply Kd.R_drew)); exact Kd.R_mono (Kd.R_far (p := ⟨gb374, 1, none⟩) (Kd.R_far (p := ⟨gb374, 0, none⟩) (Kd.R_mono HO_93.out (fun k_ hk => (⟨hk, hk.2⟩ : _ ∧ k_ ≠ gb374))) (fun _ hk => hk.2) (.int .i64 ((rd_T39 t361 x95_5).f0))) (fun _ hk => hk.2) (.int .i64 ((rd_T39 t361 x95_5).f1))) (fun _ hk => hk.1.2)⟩, ⟨by (try simp only [hl10_3]); (try simp only [hl10_4]); (try simp only [hl10_5]); (with_reducible repeat (first | refine blk_drewN ?_ _ | refine blk_drew ?_ | refine blk_alloc ?_ _)); refine blk_put (cs := #[.int .i64 ((rd_T39 t361 x95_5).f0), .int .i64 0]) ?_ 1 _ rfl; (with_reducible repeat (first | refine blk_drewN ?_ _ | refine blk_drew ?_ | refine blk_alloc ?_ _)); refine blk_put (cs := #[.int .i64 0, .int .i64 0]) ?_ 0 _ rfl; (with_reducible repeat (first | refine blk_drewN ?_ _ | refine blk_drew ?_ | refine blk_alloc ?_ _)); exact BK374.out⟩, ⟨pxb HB⟩⟩
                      case rest => as_aux_lemma =>
                       clear HC50
                       (try clear c1); (try clear c2); (try clear p2); (try clear c3); (try clear p3); (try clear q3); (try clear hx3); (try clear hf3); (try clear c4); (try clear p4); (try clear q4); (try clear hx4); (try clear hf4); (try clear c5); (try clear p6); (try clear c7); (try clear c7b0); (try clear c7b1); (try clear c8); (try clear c9); (try clear c9b0); (try clear c10); (try clear c10b0); (try clear c11); (try clear c11b0); (try clear c12); (try clear c12b0); (try clear c12b1); (try clear c19); (try clear c19b0); (try clear c19b1); (try clear c20); (try clear c20b0); (try clear c20b1); (try clear c21); (try clear c21b0); (try clear c21b1); (try clear c27); (try clear c27b0); (try clear c28); (try clear c28b0); (try clear c29); (try clear c29b0); (try clear p30); (try clear q30); (try clear hx30); (try clear hf30); (try clear c33); (try clear c33b0); (try clear c34); (try clear c34b0); (try clear c35); (try clear c35b0); (try clear p35); (try clear q35); (try clear hx35); (try clear p37); (try clear q37); (try clear hx37); (try clear c38); (try clear c38b0); (try clear c39); (try clear c39b0); (try clear c40); (try clear c40b0); (try clear p41); (try clear q41); (try clear hx41); (try clear hf41); (try clear c47); (try clear c47b0); (try clear c48); (try clear c48b0); (try clear c49); (try clear c49b0); (try clear c53); (try clear c53b0); (try clear c55); (try clear c55b0); (try clear c57); (try clear c57b0); (try clear c58); (try clear c58b0); (try clear hcz14_0 hcz14_1 hcz14_2 hfz14_0 hfz14_1 hfz14_2); (try clear hcz16_0 hcz16_1 hcz16_2 hfz16_0 hfz16_1 hfz16_2); (try clear hcz37_0 hcz37_1 hcz37_2 hfz37_0 hfz37_1 hfz37_2); (try clear hcz42_0 hcz42_1 hcz42_2 hfz42_0 hfz42_1 hfz42_2); (try clear hcz45_0 hcz45_1 hcz45_2 hfz45_0 hfz45_1 hfz45_2); (try clear hcz52_0 hcz52_1 hfz52_0 hfz52_1); (try clear hcz54_0 hcz54_1 hfz54_0 hfz54_1); (try clear hcz59_0 hcz59_1 hfz59_0 hfz59_1); (try clear hcz60_0 hcz60_1 hfz60_0 hfz60_1); (try clear hx30_0); (try clear hx359_0); (try clear hx359_1); (try clear hx359_2); (try clear hx370_0); (try clear hx370_1); (try clear hx370_2); (try clear hx373_0); (try clear hx373_1); (try clear hx375_0); (try clear hx375_1); (try clear hx41_0); (try clear p359); (try clear p370); (try clear p373); (try clear p375); (try clear q359); (try clear q370); (try clear q373); (try clear q375)
                       obtain ⟨kq, x119_49, rfl, HA, HJ49, HO_7, HO_10, HO_93, BK374, HB⟩ := hcut
                       cases kq with
                       | zero => exact absurd HA.out (by simp [caulkerlaw04_DiffKeeps.j6])
                       | succ kj49 =>
                        have H := HA.out
                        clear HA
                        simp only [caulkerlaw04_DiffKeeps.j6] at H
                        by_cases c61 : x119_49 = true
                        ·subst c61
                         have H1 : (none) = some r := by rw [if_pos rfl] at H; exact H
                         clear H
                         have H := H1
                         clear H1
                         exact absurd H (by simp)
                        ·replace c61 := Bool.eq_false_iff.mpr c61
                         subst c61
                         have H1 : (caulkerlaw04_DiffKeeps.l5 kj49 t361 t362 x10_5 ((rd_T39 t361 x95_5).f0) t361 (t361.length : Int) x95_5 ((rd_T39 t361 x95_5).f0) ((rd_T39 t361 x95_5).f1)) = some r := by rw [if_neg (show ¬ (false = true) by decide)] at H; exact H
                         clear H
                         have H := H1
                         clear H1
                         have H' := Aside0.mk H
                         clear H
                         have hcz62_0 : wc.cell? ⟨gb374, 0, none⟩ = some (.int .i64 ((rd_T39 t361 x95_5).f0)) := (blk_cell BK374.out 0).trans rfl
                         have hcz62_1 : wc.cell? ⟨gb374, 1, none⟩ = some (.int .i64 ((rd_T39 t361 x95_5).f1)) := (blk_cell BK374.out 1).trans rfl
                         have hfz62_0 := blk_frozen BK374.out 0
                         have hfz62_1 := blk_frozen BK374.out 1
                         go_wp2
                         repeat (go_quiet (fail); try go_wp2)
                         go_loopg [17] kj49 (fun kq v17 w' => ∃ (x10_7 : List Bool) (x17_7 : Int), v17 = .int .i64 x17_7 ∧ Aside0 (caulkerlaw04_DiffKeeps.l5 kq t361 t362 x10_7 x17_7 t361 (t361.length : Int) x95_5 ((rd_T39 t361 x95_5).f0) ((rd_T39 t361 x95_5).f1) = some r) ∧ Aside0 (kq ≤ kj49) ∧ Aside0 (Kd.R k39 39 w' w.heap.size (fun k_ => k_ ≠ gb374) (.slice (some ad373) t361.length co46) t361) ∧ Aside0 (Kd.R Kd.bool 4 w' w.heap.size (fun _ => True) (.slice Ao26 x10_5.length co26) x10_7) ∧ Aside0 (Kd.R k39 39 w' w.heap.size (fun k_ => k_ ≠ gb374) (.slice (some ad373) t361.length co46) t361) ∧ Aside0 (w'.heap[gb374]? = some (.cells #[.int .i64 ((rd_T39 t361 x95_5).f0), .int .i64 ((rd_T39 t361 x95_5).f1)] 39 (0, 0))) ∧ Aside0 (Below w.heap.size w w'))
                         case atStart => exact ⟨(x10_5), (((rd_T39 t361 x95_5).f0)), (by first | rfl | (simp; done) | (simp [*]; done)), H', ⟨Nat.le_refl _⟩, ⟨by (try simp only [hl10_3]); (try simp only [hl10_4]); (try simp only [hl10_5]); (with_reducible repeat (first | apply Kd.R_alloc | apply Kd.R_drewN | apply Kd.R_drew)); exact HO_7.out⟩, ⟨by (try simp only [hl10_3]); (try simp only [hl10_4]); (try simp only [hl10_5]); (with_reducible repeat (first | apply Kd.R_alloc | apply Kd.R_drewN | apply Kd.R_drew)); exact HO_10.out⟩, ⟨by (try simp only [hl10_3]); (try simp only [hl10_4]); (try simp only [hl10_5]); (with_reducible repeat (first | apply Kd.R_alloc | apply Kd.R_drewN | apply Kd.R_drew)); exact HO_93.out⟩, ⟨by (try simp only [hl10_3]); (try simp only [hl10_4]); (try simp only [hl10_5]); (with_reducible repeat (first | refine blk_drewN ?_ _ | refine blk_drew ?_ | refine blk_alloc ?_ _)); exact BK374.out⟩, ⟨pxb HB⟩⟩
                         case round =>
                          clear H'
                          (try clear c1); (try clear c2); (try clear p2); (try clear c3); (try clear p3); (try clear q3); (try clear hx3); (try clear hf3); (try clear c4); (try clear p4); (try clear q4); (try clear hx4); (try clear hf4); (try clear c5); (try clear c6); (try clear p6); (try clear c7); (try clear c7b0); (try clear c7b1); (try clear c8); (try clear c9); (try clear c9b0); (try clear c10); (try clear c10b0); (try clear c11); (try clear c11b0); (try clear c12); (try clear c12b0); (try clear c12b1); (try clear c19); (try clear c19b0); (try clear c19b1); (try clear c20); (try clear c20b0); (try clear c20b1); (try clear c21); (try clear c21b0); (try clear c21b1); (try clear c27); (try clear c27b0); (try clear c28); (try clear c28b0); (try clear c29); (try clear c29b0); (try clear p30); (try clear q30); (try clear hx30); (try clear hf30); (try clear c33); (try clear c33b0); (try clear c34); (try clear c34b0); (try clear c35); (try clear c35b0); (try clear p35); (try clear q35); (try clear hx35); (try clear p37); (try clear q37); (try clear hx37); (try clear c38); (try clear c38b0); (try clear c39); (try clear c39b0); (try clear c40); (try clear c40b0); (try clear p41); (try clear q41); (try clear hx41); (try clear hf41); (try clear c47); (try clear c47b0); (try clear c48); (try clear c48b0); (try clear c49); (try clear c49b0); (try clear c53); (try clear c53b0); (try clear c55); (try clear c55b0); (try clear c57); (try clear c57b0); (try clear c58); (try clear c58b0); (try clear c61); (try clear hcz14_0 hcz14_1 hcz14_2 hfz14_0 hfz14_1 hfz14_2); (try clear hcz16_0 hcz16_1 hcz16_2 hfz16_0 hfz16_1 hfz16_2); (try clear hcz37_0 hcz37_1 hcz37_2 hfz37_0 hfz37_1 hfz37_2); (try clear hcz42_0 hcz42_1 hcz42_2 hfz42_0 hfz42_1 hfz42_2); (try clear hcz45_0 hcz45_1 hcz45_2 hfz45_0 hfz45_1 hfz45_2); (try clear hcz52_0 hcz52_1 hfz52_0 hfz52_1); (try clear hcz54_0 hcz54_1 hfz54_0 hfz54_1); (try clear hcz59_0 hcz59_1 hfz59_0 hfz59_1); (try clear hcz60_0 hcz60_1 hfz60_0 hfz60_1); (try clear hcz62_0 hcz62_1 hfz62_0 hfz62_1); (try clear hx30_0); (try clear hx359_0); (try clear hx359_1); (try clear hx359_2); (try clear hx370_0); (try clear hx370_1); (try clear hx370_2); (try clear hx373_0); (try clear hx373_1); (try clear hx375_0); (try clear hx375_1); (try clear hx41_0); (try clear p359); (try clear p370); (try clear p373); (try clear p375); (try clear q359); (try clear q370); (try clear q373); (try clear q375)
                          obtain ⟨x10_7, x17_7, rfl, HA, HK7, HO_7, HO_10, HO_93, BK374, HB⟩ := hrel
                          have hl10_7 := (Kd.R_reads' HO_10.out).1
                          rw [hl10_7] at HO_10
                          (try simp only [hl10_7])
                          (try simp only [hl10_7] at BK374)
                          (try simp only [hl10_7] at HO_7)
                          (try simp only [hl10_7] at HO_93)
                          cases gk with
                          | zero => exact absurd HA.out (by simp [caulkerlaw04_DiffKeeps.l5])
                          | succ k7 =>
                           have H := HA.out
                           clear HA
                           simp only [caulkerlaw04_DiffKeeps.l5] at H
                           by_cases c63 : x17_7 < ((rd_T39 t361 x95_5).f1)
                           ·rw [if_pos c63] at H
                            have c63b0 : decide (x17_7 < ((rd_T39 t361 x95_5).f1)) = true := decide_eq_true c63
                            clear c63
                            by_cases c64 : 0 ≤ x17_7
                            ·rw [if_pos c64] at H
                             have c64b0 : decide (0 ≤ x17_7) = true := decide_eq_true c64
                             clear c64
                             by_cases c65 : x17_7 < (x10_7.length : Int)
                             ·rw [if_pos c65] at H
                              have c65b0 : decide (x17_7 < (x10_7.length : Int)) = true := decide_eq_true c65
                              clear c65
                              obtain ⟨bq66, hbq66⟩ : ∃ b_ : Bool, b_ = (rdOf false x10_7 x17_7) := ⟨_, rfl⟩
                              replace H : (if bq66 = true then (caulkerlaw04_DiffKeeps.l5 k7 t361 t362 (x10_7.set (x17_7 : Int).toNat false) (wrap64 (x17_7 + 1)) t361 (t361.length : Int) x95_5 ((rd_T39 t361 x95_5).f0) ((rd_T39 t361 x95_5).f1)) else (none)) = some r := by rw [← hbq66] at H; exact H
                              have Nbq66 := Aside0.mk hbq66
                              clear hbq66
                              by_cases c67 : bq66 = true
                              ·subst c67
                               have H1 : (caulkerlaw04_DiffKeeps.l5 k7 t361 t362 (x10_7.set (x17_7 : Int).toNat false) (wrap64 (x17_7 + 1)) t361 (t361.length : Int) x95_5 ((rd_T39 t361 x95_5).f0) ((rd_T39 t361 x95_5).f1)) = some r := by rw [if_pos rfl] at H; exact H
                               clear H
                               have H := H1
                               clear H1
                               obtain ⟨y377, hy377⟩ : ∃ y_ : List Bool, y_ = (x10_7.set (x17_7 : Int).toNat false) := ⟨_, rfl⟩
                               replace H : (caulkerlaw04_DiffKeeps.l5 k7 t361 t362 y377 (wrap64 (x17_7 + 1)) t361 (t361.length : Int) x95_5 ((rd_T39 t361 x95_5).f0) ((rd_T39 t361 x95_5).f1)) = some r := by first | (rw [hy377]; with_reducible exact H) | (have H2_ := (Option.bind_some _ _).symm.trans H; rw [hy377]; with_reducible exact H2_) | (have H2_ := (Option.bind_some _ _).symm.trans H; with_reducible exact H2_) | with_reducible exact H | (rw [hy377]; exact H) | exact H
                               have Ny377 := Aside0.mk hy377
                               clear hy377
                               have H' := Aside0.mk H
                               clear H
                               have hcz69_0 : wr.cell? ⟨gb374, 0, none⟩ = some (.int .i64 ((rd_T39 t361 x95_5).f0)) := (blk_cell BK374.out 0).trans rfl
                               have hcz69_1 : wr.cell? ⟨gb374, 1, none⟩ = some (.int .i64 ((rd_T39 t361 x95_5).f1)) := (blk_cell BK374.out 1).trans rfl
                               have hfz69_0 := blk_frozen BK374.out 0
                               have hfz69_1 := blk_frozen BK374.out 1
                               have p376 : 0 ≤ (x17_7 : Int) := pxd
                               have q376 : x17_7 < (x10_7.length : Int) := pxd
                               obtain ⟨ad376, e376, hx376_0⟩ := Kd.at_bool (Kd.R_reads' HO_10.out).2.2 x17_7 p376 q376
                               (try rw [← Nbq66.out] at hx376_0)
                               cases e376
                               replace p376 := eq_true p376
                               replace q376 := eq_true q376
                               have p68 : 0 ≤ (x17_7 : Int) := pxd
                               have q68 : (x17_7 : Int) < ((x10_7.length : Int) : Int) := pxd
                               obtain ⟨go68, co68, eo68, gb68, gl68, cl68, HG68⟩ := Kd.R_form HO_10.out (by omega)
                               (first | cases eo68 | (injection eo68 with ea_ en_ ec_; (first | subst ea_ | (injection ea_ with ea_; subst ea_)); subst ec_; clear en_))
                               have GB68 := Aside0.mk gb68
                               have GG68 := Aside0.mk HG68
                               clear gb68 gl68 HG68
                               (first | simp only [add_plain] at hx376_0 | skip)
                               obtain ⟨hx68_0, hf68_0⟩ := Kd.R_celln false HO_10.out (x17_7 : Int) p68 q68
                               replace p68 := eq_true p68
                               replace q68 := eq_true q68
                               have HP70 := Kd.R_putg HO_10.out (x17_7 : Int) false
                               go_wp2_with (first | ((with_reducible refine gate_store (t := 4) (p := 135) rfl ?_); (try (rw [drewN_self wr]; generalize hq_ : World.drewN wr _ = wr; have n0_ := Aside0.mk (Kd.R_at hq_ HO_7.out); have n1_ := Aside0.mk (Kd.R_at hq_ HO_10.out); have n2_ := Aside0.mk (Kd.R_at hq_ HO_93.out); have n3_ := Aside0.mk (blk_at hq_ BK374.out); have n4_ := Aside0.mk (below_at hq_ HB.out); clear hq_ HO_7 HO_10 HO_93 BK374 HB; have HO_7 := n0_; have HO_10 := n1_; have HO_93 := n2_; have BK374 := n3_; have HB := n4_; clear n0_ n1_ n2_ n3_ n4_; (try (have HP70 := Kd.R_putg HO_10.out (x17_7 : Int) false)))); refine store_event (t := 4) (p := 135) (v := ?vo_w71) (w1 := (wr.setCell ⟨go68, (x17_7 : Int).toNat, none⟩ (.bool false))) ?hg ?ho ?hn ?hr ?_; (case ho => rfl); (case hg => rfl); (case hn => rfl); (case hr => first | (go_simp; done) | (go_simp; rfl)); intro w71 hw; have hg : wr.grownBy w71 (some go68) := (by rw [hw]; exact HP70.2); have hp_ : Kd.R Kd.bool 4 w71 w.heap.size (fun _ => True) (.slice (some ⟨go68, 0, none⟩) x10_7.length co26) y377 := (by rw [hw, Ny377.out]; exact HP70.1); clear HP70; replace HO_7 := Aside0.mk (Kd.R_over' (v := (.slice (some ⟨go68, 0, none⟩) x10_7.length co26)) (pxr HO_7) (Kd.R_typed HO_10.out) (by decide) hg); replace HO_93 := Aside0.mk (Kd.R_over' (v := (.slice (some ⟨go68, 0, none⟩) x10_7.length co26)) (pxr HO_93) (Kd.R_typed HO_10.out) (by decide) hg); replace BK374 := Aside0.mk (blk_grown (g := gb374) (o := .cells #[.int .i64 ((rd_T39 t361 x95_5).f0), .int .i64 ((rd_T39 t361 x95_5).f1)] 39 (0, 0)) (pxq BK374) hg (Kd.R_ne HO_10.out BK374.out (by decide))); replace HO_10 := Aside0.mk (hp_); replace HB := Aside0.mk ((by rw [hw]; exact below_set (HB.out) GB68.out : Below w.heap.size w w71)); clear hg hw hp_))
                               repeat (go_quiet (fail); try go_wp2_with (first | ((with_reducible refine gate_store (t := 4) (p := 135) rfl ?_); (try (rw [drewN_self wr]; generalize hq_ : World.drewN wr _ = wr; have n0_ := Aside0.mk (Kd.R_at hq_ HO_7.out); have n1_ := Aside0.mk (Kd.R_at hq_ HO_10.out); have n2_ := Aside0.mk (Kd.R_at hq_ HO_93.out); have n3_ := Aside0.mk (blk_at hq_ BK374.out); have n4_ := Aside0.mk (below_at hq_ HB.out); clear hq_ HO_7 HO_10 HO_93 BK374 HB; have HO_7 := n0_; have HO_10 := n1_; have HO_93 := n2_; have BK374 := n3_; have HB := n4_; clear n0_ n1_ n2_ n3_ n4_; (try (have HP70 := Kd.R_putg HO_10.out (x17_7 : Int) false)))); refine store_event (t := 4) (p := 135) (v := ?vo_w71) (w1 := (wr.setCell ⟨go68, (x17_7 : Int).toNat, none⟩ (.bool false))) ?hg ?ho ?hn ?hr ?_; (case ho => rfl); (case hg => rfl); (case hn => rfl); (case hr => first | (go_simp; done) | (go_simp; rfl)); intro w71 hw; have hg : wr.grownBy w71 (some go68) := (by rw [hw]; exact HP70.2); have hp_ : Kd.R Kd.bool 4 w71 w.heap.size (fun _ => True) (.slice (some ⟨go68, 0, none⟩) x10_7.length co26) y377 := (by rw [hw, Ny377.out]; exact HP70.1); clear HP70; replace HO_7 := Aside0.mk (Kd.R_over' (v := (.slice (some ⟨go68, 0, none⟩) x10_7.length co26)) (pxr HO_7) (Kd.R_typed HO_10.out) (by decide) hg); replace HO_93 := Aside0.mk (Kd.R_over' (v := (.slice (some ⟨go68, 0, none⟩) x10_7.length co26)) (pxr HO_93) (Kd.R_typed HO_10.out) (by decide) hg); replace BK374 := Aside0.mk (blk_grown (g := gb374) (o := .cells #[.int .i64 ((rd_T39 t361 x95_5).f0), .int .i64 ((rd_T39 t361 x95_5).f1)] 39 (0, 0)) (pxq BK374) hg (Kd.R_ne HO_10.out BK374.out (by decide))); replace HO_10 := Aside0.mk (hp_); replace HB := Aside0.mk ((by rw [hw]; exact below_set (HB.out) GB68.out : Below w.heap.size w w71)); clear hg hw hp_)))
                               (try simp only [← hl10_7])
                               go_roundg k7
                               case measure => have := HJ4.out; have := HK2.out; have := HK3.out; have := HK4.out; have := HK5.out; have := HJ49.out; have := HK7.out; omega
                               case rel => exact ⟨(y377), (wrap64 (x17_7 + 1)), (by first | rfl | (simp; done) | (simp [*]; done)), H', ⟨by have := HJ4.out; have := HK2.out; have := HK3.out; have := HK4.out; have := HK5.out; have := HJ49.out; have := HK7.out; omega⟩, ⟨by (try simp only [hl10_3]); (try simp only [hl10_4]); (try simp only [hl10_5]); (try simp only [hl10_7]); (with_reducible repeat (first | apply Kd.R_alloc | apply Kd.R_drewN | apply Kd.R_drew)); exact HO_7.out⟩, ⟨by (try simp only [hl10_3]); (try simp only [hl10_4]); (try simp only [hl10_5]); (try simp only [hl10_7]); (with_reducible repeat (first | apply Kd.R_alloc | apply Kd.R_drewN | apply Kd.R_drew)); exact HO_10.out⟩, ⟨by (try simp only [hl10_3]); (try simp only [hl10_4]); (try simp only [hl10_5]); (try simp only [hl10_7]); (with_reducible repeat (first | apply Kd.R_alloc | apply Kd.R_drewN | apply Kd.R_drew)); exact HO_93.out⟩, ⟨by (try simp only [hl10_3]); (try simp only [hl10_4]); (try simp only [hl10_5]); (try simp only [hl10_7]); (with_reducible repeat (first | refine blk_drewN ?_ _ | refine blk_drew ?_ | refine blk_alloc ?_ _)); exact BK374.out⟩, ⟨pxb HB⟩⟩
                              ·replace c67 := Bool.eq_false_iff.mpr c67
                               subst c67
                               have H1 : (none) = some r := by rw [if_neg (show ¬ (false = true) by decide)] at H; exact H
                               clear H
                               have H := H1
                               clear H1
                               exact absurd H (by simp)
                             ·rw [if_neg c65] at H
                              exact absurd H (by simp)
                            ·rw [if_neg c64] at H
                             exact absurd H (by simp)
                           ·rw [if_neg c63] at H
                            have c63b0 : decide (x17_7 < ((rd_T39 t361 x95_5).f1)) = false := decide_eq_false c63
                            clear c63
                            have H' := Aside0.mk H
                            clear H
                            have hcz72_0 : wr.cell? ⟨gb374, 0, none⟩ = some (.int .i64 ((rd_T39 t361 x95_5).f0)) := (blk_cell BK374.out 0).trans rfl
                            have hcz72_1 : wr.cell? ⟨gb374, 1, none⟩ = some (.int .i64 ((rd_T39 t361 x95_5).f1)) := (blk_cell BK374.out 1).trans rfl
                            have hfz72_0 := blk_frozen BK374.out 0
                            have hfz72_1 := blk_frozen BK374.out 1
                            go_wp2
                            repeat (go_quiet (fail); try go_wp2)
                            (try simp only [← hl10_5, ← hl10_7])
                            go_roundg k7
                            case measure => have := HJ4.out; have := HK2.out; have := HK3.out; have := HK4.out; have := HK5.out; have := HJ49.out; have := HK7.out; omega
                            case rel => exact ⟨(x10_7), (wrap64 (x95_5 + 1)), (by first | rfl | (simp; done) | (simp [*]; done)), H', ⟨by have := HJ4.out; have := HK2.out; have := HK3.out; have := HK4.out; have := HK5.out; have := HJ49.out; have := HK7.out; omega⟩, ⟨by (try simp only [hl10_3]); (try simp only [hl10_4]); (try simp only [hl10_5]); (try simp only [hl10_7]); (with_reducible repeat (first | apply Kd.R_alloc | apply Kd.R_drewN | apply Kd.R_drew)); exact Kd.R_mono HO_7.out (fun _ hk => trivial)⟩, ⟨by (try simp only [hl10_3]); (try simp only [hl10_4]); (try simp only [hl10_5]); (try simp only [hl10_7]); (with_reducible repeat (first | apply Kd.R_alloc | apply Kd.R_drewN | apply Kd.R_drew)); exact HO_10.out⟩, ⟨by (try simp only [hl10_3]); (try simp only [hl10_4]); (try simp only [hl10_5]); (try simp only [hl10_7]); (with_reducible repeat (first | apply Kd.R_alloc | apply Kd.R_drewN | apply Kd.R_drew)); exact Kd.R_mono HO_93.out (fun _ hk => trivial)⟩, ⟨pxb HB⟩⟩
                     ·rw [if_neg c49] at H
                      exact absurd H (by simp)
                    ·rw [if_neg c48] at H
                     exact absurd H (by simp)
                   ·rw [if_neg c47] at H
                    have c47b0 : decide (x95_5 < (t361.length : Int)) = false := decide_eq_false c47
                    clear c47
                    have H' := Aside0.mk H
                    clear H
                    go_wp2
                    repeat (go_quiet (fail); try go_wp2)
                    go_loopg [139] k5 (fun kq v139 w' => ∃ (x139_6 : Int), v139 = .int .i64 x139_6 ∧ Aside0 (caulkerlaw04_DiffKeeps.l6 kq t362 x10_5 (x10_5.length : Int) x139_6 = some r) ∧ Aside0 (kq ≤ k5) ∧ Aside0 (Kd.R Kd.bool 4 w' w.heap.size (fun _ => True) (.slice Ao26 x10_5.length co26) x10_5) ∧ Aside0 (Below w.heap.size w w'))
                    case atStart => exact ⟨(0), (by first | rfl | (simp; done) | (simp [*]; done)), H', ⟨Nat.le_refl _⟩, ⟨by (try simp only [hl10_3]); (try simp only [hl10_4]); (try simp only [hl10_5]); (with_reducible repeat (first | apply Kd.R_alloc | apply Kd.R_drewN | apply Kd.R_drew)); exact HO_10.out⟩, ⟨pxb HB⟩⟩
                    case round =>
                     clear H'
                     (try clear c1); (try clear c2); (try clear p2); (try clear c3); (try clear p3); (try clear q3); (try clear hx3); (try clear hf3); (try clear c4); (try clear p4); (try clear q4); (try clear hx4); (try clear hf4); (try clear c5); (try clear c6); (try clear p6); (try clear q6); (try clear hx6); (try clear hf6); (try clear c7); (try clear c7b0); (try clear c7b1); (try clear c8); (try clear c9); (try clear c9b0); (try clear c10); (try clear c10b0); (try clear c11); (try clear c11b0); (try clear c12); (try clear c12b0); (try clear c12b1); (try clear c19); (try clear c19b0); (try clear c19b1); (try clear c20); (try clear c20b0); (try clear c20b1); (try clear c21); (try clear c21b0); (try clear c21b1); (try clear c27); (try clear c27b0); (try clear c28); (try clear c28b0); (try clear c29); (try clear c29b0); (try clear p30); (try clear q30); (try clear hx30); (try clear hf30); (try clear c33); (try clear c33b0); (try clear c34); (try clear c34b0); (try clear c35); (try clear c35b0); (try clear p35); (try clear q35); (try clear hx35); (try clear p37); (try clear q37); (try clear hx37); (try clear c38); (try clear c38b0); (try clear c39); (try clear c39b0); (try clear c40); (try clear c40b0); (try clear p41); (try clear q41); (try clear hx41); (try clear hf41); (try clear c47); (try clear c47b0); (try clear c48); (try clear c48b0); (try clear c49); (try clear c49b0); (try clear c53); (try clear c53b0); (try clear c55); (try clear c55b0); (try clear c57); (try clear c57b0); (try clear c58); (try clear c58b0); (try clear c61); (try clear c63); (try clear c63b0); (try clear c64); (try clear c64b0); (try clear p64); (try clear c65); (try clear c65b0); (try clear q66); (try clear c67); (try clear p68); (try clear q68); (try clear hx68); (try clear hf68); (try clear hcz14_0 hcz14_1 hcz14_2 hfz14_0 hfz14_1 hfz14_2); (try clear hcz16_0 hcz16_1 hcz16_2 hfz16_0 hfz16_1 hfz16_2); (try clear hcz37_0 hcz37_1 hcz37_2 hfz37_0 hfz37_1 hfz37_2); (try clear hcz42_0 hcz42_1 hcz42_2 hfz42_0 hfz42_1 hfz42_2); (try clear hcz45_0 hcz45_1 hcz45_2 hfz45_0 hfz45_1 hfz45_2); (try clear hcz52_0 hcz52_1 hfz52_0 hfz52_1); (try clear hcz54_0 hcz54_1 hfz54_0 hfz54_1); (try clear hcz59_0 hcz59_1 hfz59_0 hfz59_1); (try clear hcz60_0 hcz60_1 hfz60_0 hfz60_1); (try clear hcz62_0 hcz62_1 hfz62_0 hfz62_1); (try clear hcz69_0 hcz69_1 hfz69_0 hfz69_1); (try clear hcz72_0 hcz72_1 hfz72_0 hfz72_1); (try clear hx30_0); (try clear hx359_0); (try clear hx359_1); (try clear hx359_2); (try clear hx370_0); (try clear hx370_1); (try clear hx370_2); (try clear hx373_0); (try clear hx373_1); (try clear hx375_0); (try clear hx375_1); (try clear hx376_0); (try clear hx41_0); (try clear hx68_0); (try clear p359); (try clear p370); (try clear p373); (try clear p375); (try clear p376); (try clear q359); (try clear q370); (try clear q373); (try clear q375); (try clear q376)
                     obtain ⟨x139_6, rfl, HA, HK6, HO_137, HB⟩ := hrel
                     cases gk with
                     | zero => exact absurd HA.out (by simp [caulkerlaw04_DiffKeeps.l6])
                     | succ k6 =>
                      have H := HA.out
                      clear HA
                      simp only [caulkerlaw04_DiffKeeps.l6] at H
                      by_cases c73 : x139_6 < (x10_5.length : Int)
                      ·rw [if_pos c73] at H
                       have c73b0 : decide (x139_6 < (x10_5.length : Int)) = true := decide_eq_true c73
                       clear c73
                       by_cases c74 : 0 ≤ x139_6
                       ·rw [if_pos c74] at H
                        have c74b0 : decide (0 ≤ x139_6) = true := decide_eq_true c74
                        clear c74
                        by_cases c75 : x139_6 < (x10_5.length : Int)
                        ·rw [if_pos c75] at H
                         have c75b0 : decide (x139_6 < (x10_5.length : Int)) = true := decide_eq_true c75
                         clear c75
                         obtain ⟨bq76, hbq76⟩ : ∃ b_ : Bool, b_ = (rdOf false x10_5 x139_6) := ⟨_, rfl⟩
                         replace H : (if bq76 = true then (none) else (caulkerlaw04_DiffKeeps.l6 k6 t362 x10_5 (x10_5.length : Int) (wrap64 (x139_6 + 1)))) = some r := by rw [← hbq76] at H; exact H
                         have Nbq76 := Aside0.mk hbq76
                         clear hbq76
                         by_cases c77 : bq76 = true
                         ·subst c77
                          have H1 : (none) = some r := by rw [if_pos rfl] at H; exact H
                          clear H
                          have H := H1
                          clear H1
                          exact absurd H (by simp)
                         ·replace c77 := Bool.eq_false_iff.mpr c77
                          subst c77
                          have H1 : (caulkerlaw04_DiffKeeps.l6 k6 t362 x10_5 (x10_5.length : Int) (wrap64 (x139_6 + 1))) = some r := by rw [if_neg (show ¬ (false = true) by decide)] at H; exact H
                          clear H
                          have H := H1
                          clear H1
                          have H' := Aside0.mk H
                          clear H
                          have p378 : 0 ≤ (x139_6 : Int) := pxd
                          have q378 : x139_6 < (x10_5.length : Int) := pxd
                          obtain ⟨ad378, e378, hx378_0⟩ := Kd.at_bool (Kd.R_reads' HO_137.out).2.2 x139_6 p378 q378
                          (try rw [← Nbq76.out] at hx378_0)
                          cases e378
                          replace p378 := eq_true p378
                          replace q378 := eq_true q378
                          go_wp2
                          repeat (go_quiet (fail); try go_wp2)
                          go_roundg k6
                          case measure => have := HJ4.out; have := HK2.out; have := HK3.out; have := HK4.out; have := HK5.out; have := HK6.out; omega
                          case rel => exact ⟨(wrap64 (x139_6 + 1)), (by first | rfl | (simp; done) | (simp [*]; done)), H', ⟨by have := HJ4.out; have := HK2.out; have := HK3.out; have := HK4.out; have := HK5.out; have := HK6.out; omega⟩, ⟨by (try simp only [hl10_3]); (try simp only [hl10_4]); (try simp only [hl10_5]); (with_reducible repeat (first | apply Kd.R_alloc | apply Kd.R_drewN | apply Kd.R_drew)); exact HO_137.out⟩, ⟨pxb HB⟩⟩
                        ·rw [if_neg c75] at H
                         exact absurd H (by simp)
                       ·rw [if_neg c74] at H
                        exact absurd H (by simp)
                      ·rw [if_neg c73] at H
                       have c73b0 : decide (x139_6 < (x10_5.length : Int)) = false := decide_eq_false c73
                       clear c73
                       obtain rfl := Option.some.inj H
                       go_wp2
                       repeat (go_quiet (fail); try go_wp2)
                       go_ret
                       exact ⟨by first | rfl | (simp [errW_none, errW_some] <;> rfl) | (simp [*, errW_none, errW_some] <;> rfl), pxb HB⟩
          ·rw [if_neg c21] at H
           exact absurd H (by simp)
         ·rw [if_neg c20] at H
          exact absurd H (by simp)
        ·rw [if_neg c19] at H
         have c19b0 : (t365 == 0) = false := beq_eq_false_iff_ne.mpr c19
         have c19b1 : (t365 != 0) = true := bne_iff_ne.mpr c19
         by_cases c78 : t362 = t365
         ·rw [if_pos c78] at H
          have c78b0 : (t362 == t365) = true := beq_iff_eq.mpr c78
          have c78b1 : (t362 != t365) = false := bne_eq_false_iff_eq.mpr c78
          clear c78
          obtain rfl := Option.some.inj H
          go_wp2_with (first | (go_at_call 17; (with_reducible refine (diff_Kept.calls k2 a0 _ _ l1 t361 t362 _ ?side1 ?side2 A17.out).mono ?_); (case side1 => exact pxc HR1 HB); (case side2 => exact HC1.out); rintro e w79 ⟨v363, rfl, ho0, hb⟩; have HO364 := Aside0.mk (Kd.R_lower ho0 (below_size (pxb HB))); replace HB := pxs HB hb; (try clear hb); (try clear hb2); (try clear hk); (try clear hi); (try clear ho0)) | (go_at_call 18; (with_reducible refine (caulkerref03_Check.calls k2 (a0.size : Int) _ _ l1 t365 _ ?side1 ?side2 A18.out).mono ?_); (case side1 => exact pxc HR1 HB); (case side2 => exact HC1.out); rintro e w80 ⟨rfl, hb⟩; replace HO364 := Aside0.mk (Kd.R_below (pxr HO364) hb); replace HB := pxs HB hb; (try clear hb); (try clear hb2); (try clear hk); (try clear hi); obtain ⟨Ao81, co81, eo81⟩ := Kd.R_slice HO364.out; subst eo81))
          repeat (go_quiet (fail); try go_wp2_with (first | (go_at_call 17; (with_reducible refine (diff_Kept.calls k2 a0 _ _ l1 t361 t362 _ ?side1 ?side2 A17.out).mono ?_); (case side1 => exact pxc HR1 HB); (case side2 => exact HC1.out); rintro e w79 ⟨v363, rfl, ho0, hb⟩; have HO364 := Aside0.mk (Kd.R_lower ho0 (below_size (pxb HB))); replace HB := pxs HB hb; (try clear hb); (try clear hb2); (try clear hk); (try clear hi); (try clear ho0)) | (go_at_call 18; (with_reducible refine (caulkerref03_Check.calls k2 (a0.size : Int) _ _ l1 t365 _ ?side1 ?side2 A18.out).mono ?_); (case side1 => exact pxc HR1 HB); (case side2 => exact HC1.out); rintro e w80 ⟨rfl, hb⟩; replace HO364 := Aside0.mk (Kd.R_below (pxr HO364) hb); replace HB := pxs HB hb; (try clear hb); (try clear hb2); (try clear hk); (try clear hi); obtain ⟨Ao81, co81, eo81⟩ := Kd.R_slice HO364.out; subst eo81)))
          go_ret
          exact ⟨by first | rfl | (simp [errW_none, errW_some] <;> rfl) | (simp [*, errW_none, errW_some] <;> rfl), pxb HB⟩
         ·rw [if_neg c78] at H
          exact absurd H (by simp)
 ·replace c4 := Bool.eq_false_iff.mpr c4
  subst c4
  have H1 : (none) = some r := by rw [if_neg (show ¬ (false = true) by decide)] at H; exact H
  clear H
  have H := H1
  clear H1
  exact absurd H (by simp)

/-- THE ONE PURE STATEMENT of caulkerlaw04_DiffKeeps. -/
def caulkerlaw04_DiffKeeps.Pure : Prop := ∀ (a0 : ByteArray) (l1 : List (S41)), a0.size ≤ 140737488351232 → l1.length ≤ 9223372036854775807 → l1.length * 32 ≤ 140737488351232 → (∀ y ∈ l1, good41 y) → ∃ k, caulkerlaw04_DiffKeeps.f k a0 l1 = some true

end Go.Proofs.Ytoljmjhmieaggaa.X
