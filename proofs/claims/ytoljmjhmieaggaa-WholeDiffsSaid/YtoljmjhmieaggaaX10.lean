/- What the program's functions answer, as Lean functions, and that each call does just that; no condition. Written by a program (px.py) out of the translation. -/
import Derived.Test.YtoljmjhmieaggaaM2
import Derived.Test.YtoljmjhmieaggaaX12
import Derived.Test.YtoljmjhmieaggaaM13
import Derived.Test.YtoljmjhmieaggaaX17
import Derived.Test.YtoljmjhmieaggaaX22
import Derived.Test.YtoljmjhmieaggaaX21
import Derived.Test.YtoljmjhmieaggaaX23
import Derived.Test.YtoljmjhmieaggaaX24
import Derived.Test.YtoljmjhmieaggaaShort2
namespace Go.Proofs.Ytoljmjhmieaggaa.X
open Go.RowKit Go.Proofs.YtoljmjhmieaggaaW.PrintWords Go.Proofs.YtoljmjhmieaggaaW.PrintLast Go.Proofs.YtoljmjhmieaggaaW.PrintMore
attribute [local go_sem] max2_int min2_int max_two min_two max_three min_three max_four min_four   -- for this text's walks alone
set_option linter.unusedVariables false
set_option linter.unusedSimpArgs false

/-! ### caulkertop_WholeDiffs: function 10 -/
mutual
def caulkertop_WholeDiffs.j0 : Nat → ByteArray → ByteArray → ByteArray → Bool → Option (Bool)
 | 0, _, _, _, _ => none
 | k + 1, x0, x1, x2, x39 => if x39 = true then (none) else (if (x0.size : Int) > 120 then (caulkertop_WholeDiffs.j1 k x0 x1 x2 true) else (if (x1.size : Int) > 120 then (caulkertop_WholeDiffs.j1 k x0 x1 x2 true) else (caulkertop_WholeDiffs.j1 k x0 x1 x2 (decide ((x2.size : Int) > 120)))))
def caulkertop_WholeDiffs.j1 : Nat → ByteArray → ByteArray → ByteArray → Bool → Option (Bool)
 | 0, _, _, _, _ => none
 | k + 1, x0, x1, x2, x52 => if x52 = true then (some true) else ((diff_Bytes.f k x0 x1).bind fun bt513 => ((diff_Bytes.f k x1 x2).bind fun bt518 => ((diff_Bytes.f k x0 x2).bind fun bt523 => ((edit_Then.f k x0 bt513.1 bt518.1).bind fun bt528 => (if (wrap64 ((wrap64 ((wrap64 (bt513.2.2 + bt518.2.2)) + bt523.2.2)) + bt528.2)) = 0 then (caulkertop_WholeDiffs.j2 k x0 x2 bt513.1 bt518.1 bt523.1 bt528.1 (!bt523.2.1)) else (caulkertop_WholeDiffs.j2 k x0 x2 bt513.1 bt518.1 bt523.1 bt528.1 true))))))
def caulkertop_WholeDiffs.j2 : Nat → ByteArray → ByteArray → List (S41) → List (S41) → List (S41) → List (S41) → Bool → Option (Bool)
 | 0, _, _, _, _, _, _, _ => none
 | k + 1, x0, x2, x9, x12, x15, x18, x92 => if x92 = true then (none) else ((edit_Apply.f k x0 x18).bind fun bt532 => ((edit_Invert.f k x0 x18).bind fun bt534 => ((edit_Apply.f k x2 bt534.1).bind fun bt538 => (if (wrap64 ((wrap64 (bt532.2 + bt534.2)) + bt538.2)) = 0 then (if bt532.1.toList = x2.toList then (if bt538.1.toList = x0.toList then ((edit_Cost.f k x18).bind fun t540 => ((edit_Cost.f k x15).bind fun t541 => (if t540 < t541 then (caulkertop_WholeDiffs.j3 k x0 x2 x15 true) else ((edit_Cost.f k x18).bind fun t542 => ((edit_Cost.f k x9).bind fun t543 => ((edit_Cost.f k x12).bind fun t544 => (caulkertop_WholeDiffs.j3 k x0 x2 x15 (decide (t542 > (wrap64 (t543 + t544))))))))))) else (caulkertop_WholeDiffs.j3 k x0 x2 x15 true)) else (caulkertop_WholeDiffs.j3 k x0 x2 x15 true)) else (caulkertop_WholeDiffs.j3 k x0 x2 x15 true)))))
def caulkertop_WholeDiffs.j3 : Nat → ByteArray → ByteArray → List (S41) → Bool → Option (Bool)
 | 0, _, _, _, _ => none
 | k + 1, x0, x2, x15, x143 => if x143 = true then (none) else ((diff_Kept.f k x0 x15).bind fun bt545 => (if bt545.2 = 0 then (caulkertop_WholeDiffs.l0 k x0 x2 x15 0 bt545.1 (bt545.1.length : Int) 0) else (none)))
def caulkertop_WholeDiffs.l0 : Nat → ByteArray → ByteArray → List (S41) → Int → List (S39) → Int → Int → Option (Bool)
 | 0, _, _, _, _, _, _, _ => none
 | k + 1, x0, x2, x15, x24, x152, x153, x154 => if x154 < x153 then (if 0 ≤ x154 then (if x154 < (x152.length : Int) then (caulkertop_WholeDiffs.l1 k x0 x2 x15 x24 ((rd_T39 x152 x154).f0) x152 x153 x154 ((rd_T39 x152 x154).f0) ((rd_T39 x152 x154).f1)) else (none)) else (none)) else ((edit_Cost.f k x15).bind fun t549 => (some ((wrap64 ((wrap64 ((x0.size : Int) + (x2.size : Int))) - (wrap64 (2 * x24)))) == t549)))
def caulkertop_WholeDiffs.l1 : Nat → ByteArray → ByteArray → List (S41) → Int → Int → List (S39) → Int → Int → Int → Int → Option (Bool)
 | 0, _, _, _, _, _, _, _, _, _, _ => none
 | k + 1, x0, x2, x15, x24, x27, x152, x153, x154, x552000, x552001 => if x27 < x552001 then ((edit_Move.f k x0 x27 true x15).bind fun bt552 => (if bt552.2 = 0 then (if bt552.1 ≥ (x2.size : Int) then (none) else (if 0 ≤ bt552.1 then (if bt552.1 < (x2.size : Int) then (if 0 ≤ x27 then (if x27 < (x0.size : Int) then (if (bt x2 bt552.1) = (bt x0 x27) then (caulkertop_WholeDiffs.l1 k x0 x2 x15 (wrap64 (x24 + 1)) (wrap64 (x27 + 1)) x152 x153 x154 x552000 x552001) else (none)) else (none)) else (none)) else (none)) else (none))) else (none))) else (caulkertop_WholeDiffs.l0 k x0 x2 x15 x24 x152 x153 (wrap64 (x154 + 1)))
end
def caulkertop_WholeDiffs.f (k : Nat) (a0 : ByteArray) (a1 : ByteArray) (a2 : ByteArray) : Option (Bool) := (diff_Far.f k (⟨#[97, 98]⟩ : ByteArray) (⟨#[98]⟩ : ByteArray)).bind fun bt511 => (if bt511.1 = 1 then (caulkertop_WholeDiffs.j0 k a0 a1 a2 (!bt511.2)) else (caulkertop_WholeDiffs.j0 k a0 a1 a2 true))
theorem caulkertop_WholeDiffs.mono_l : ∀ k, (∀ y0 y1 y2 y3, LeO (caulkertop_WholeDiffs.j0 k y0 y1 y2 y3) (caulkertop_WholeDiffs.j0 (k + 1) y0 y1 y2 y3)) ∧ (∀ y0 y1 y2 y3, LeO (caulkertop_WholeDiffs.j1 k y0 y1 y2 y3) (caulkertop_WholeDiffs.j1 (k + 1) y0 y1 y2 y3)) ∧ (∀ y0 y1 y2 y3 y4 y5 y6, LeO (caulkertop_WholeDiffs.j2 k y0 y1 y2 y3 y4 y5 y6) (caulkertop_WholeDiffs.j2 (k + 1) y0 y1 y2 y3 y4 y5 y6)) ∧ (∀ y0 y1 y2 y3, LeO (caulkertop_WholeDiffs.j3 k y0 y1 y2 y3) (caulkertop_WholeDiffs.j3 (k + 1) y0 y1 y2 y3)) ∧ (∀ y0 y1 y2 y3 y4 y5 y6, LeO (caulkertop_WholeDiffs.l0 k y0 y1 y2 y3 y4 y5 y6) (caulkertop_WholeDiffs.l0 (k + 1) y0 y1 y2 y3 y4 y5 y6)) ∧ (∀ y0 y1 y2 y3 y4 y5 y6 y7 y8 y9, LeO (caulkertop_WholeDiffs.l1 k y0 y1 y2 y3 y4 y5 y6 y7 y8 y9) (caulkertop_WholeDiffs.l1 (k + 1) y0 y1 y2 y3 y4 y5 y6 y7 y8 y9))
 | 0 => ⟨fun _ _ _ _ r h => by simp [caulkertop_WholeDiffs.j0] at h, fun _ _ _ _ r h => by simp [caulkertop_WholeDiffs.j1] at h, fun _ _ _ _ _ _ _ r h => by simp [caulkertop_WholeDiffs.j2] at h, fun _ _ _ _ r h => by simp [caulkertop_WholeDiffs.j3] at h, fun _ _ _ _ _ _ _ r h => by simp [caulkertop_WholeDiffs.l0] at h, fun _ _ _ _ _ _ _ _ _ _ r h => by simp [caulkertop_WholeDiffs.l1] at h⟩
 | k + 1 => by
  obtain ⟨ih0, ih1, ih2, ih3, ih4, ih5⟩ := caulkertop_WholeDiffs.mono_l k
  refine ⟨?_, ?_, ?_, ?_, ?_, ?_⟩
  ·intro y0 y1 y2 y3
   unfold caulkertop_WholeDiffs.j0
   repeat' first
   | (with_reducible exact ih0 _ _ _ _)
   | (with_reducible exact ih1 _ _ _ _)
   | (with_reducible exact ih2 _ _ _ _ _ _ _)
   | (with_reducible exact ih3 _ _ _ _)
   | (with_reducible exact ih4 _ _ _ _ _ _ _)
   | (with_reducible exact ih5 _ _ _ _ _ _ _ _ _ _)
   | (with_reducible exact diff_Bytes.mono _ _ _)
   | (with_reducible exact diff_Far.mono _ _ _)
   | (with_reducible exact diff_Kept.mono _ _ _)
   | (with_reducible exact edit_Apply.mono _ _ _)
   | (with_reducible exact edit_Cost.mono _ _)
   | (with_reducible exact edit_Invert.mono _ _ _)
   | (with_reducible exact edit_Move.mono _ _ _ _ _)
   | (with_reducible exact edit_Then.mono _ _ _ _)
   | (with_reducible exact LeO.refl _)
   | (with_reducible exact LeO.none _)
   | (with_reducible refine LeO.ite ?_ ?_)
   | (with_reducible refine LeO.bind ?_ (fun _ => ?_))
   | exact ih0 _ _ _ _
   | exact ih1 _ _ _ _
   | exact ih2 _ _ _ _ _ _ _
   | exact ih3 _ _ _ _
   | exact ih4 _ _ _ _ _ _ _
   | exact ih5 _ _ _ _ _ _ _ _ _ _
   | exact diff_Bytes.mono _ _ _
   | exact diff_Far.mono _ _ _
   | exact diff_Kept.mono _ _ _
   | exact edit_Apply.mono _ _ _
   | exact edit_Cost.mono _ _
   | exact edit_Invert.mono _ _ _
   | exact edit_Move.mono _ _ _ _ _
   | exact edit_Then.mono _ _ _ _
   | exact LeO.none _
   | refine LeO.ite ?_ ?_
   | refine LeO.bind ?_ (fun _ => ?_)
  ·intro y0 y1 y2 y3
   unfold caulkertop_WholeDiffs.j1
   repeat' first
   | (with_reducible exact ih0 _ _ _ _)
   | (with_reducible exact ih1 _ _ _ _)
   | (with_reducible exact ih2 _ _ _ _ _ _ _)
   | (with_reducible exact ih3 _ _ _ _)
   | (with_reducible exact ih4 _ _ _ _ _ _ _)
   | (with_reducible exact ih5 _ _ _ _ _ _ _ _ _ _)
   | (with_reducible exact diff_Bytes.mono _ _ _)
   | (with_reducible exact diff_Far.mono _ _ _)
   | (with_reducible exact diff_Kept.mono _ _ _)
   | (with_reducible exact edit_Apply.mono _ _ _)
   | (with_reducible exact edit_Cost.mono _ _)
   | (with_reducible exact edit_Invert.mono _ _ _)
   | (with_reducible exact edit_Move.mono _ _ _ _ _)
   | (with_reducible exact edit_Then.mono _ _ _ _)
   | (with_reducible exact LeO.refl _)
   | (with_reducible exact LeO.none _)
   | (with_reducible refine LeO.ite ?_ ?_)
   | (with_reducible refine LeO.bind ?_ (fun _ => ?_))
   | exact ih0 _ _ _ _
   | exact ih1 _ _ _ _
   | exact ih2 _ _ _ _ _ _ _
   | exact ih3 _ _ _ _
   | exact ih4 _ _ _ _ _ _ _
   | exact ih5 _ _ _ _ _ _ _ _ _ _
   | exact diff_Bytes.mono _ _ _
   | exact diff_Far.mono _ _ _
   | exact diff_Kept.mono _ _ _
   | exact edit_Apply.mono _ _ _
   | exact edit_Cost.mono _ _
   | exact edit_Invert.mono _ _ _
   | exact edit_Move.mono _ _ _ _ _
   | exact edit_Then.mono _ _ _ _
   | exact LeO.none _
   | refine LeO.ite ?_ ?_
   | refine LeO.bind ?_ (fun _ => ?_)
  ·intro y0 y1 y2 y3 y4 y5 y6
   unfold caulkertop_WholeDiffs.j2
   repeat' first
   | (with_reducible exact ih0 _ _ _ _)
   | (with_reducible exact ih1 _ _ _ _)
   | (with_reducible exact ih2 _ _ _ _ _ _ _)
   | (with_reducible exact ih3 _ _ _ _)
   | (with_reducible exact ih4 _ _ _ _ _ _ _)
   | (with_reducible exact ih5 _ _ _ _ _ _ _ _ _ _)
   | (with_reducible exact diff_Bytes.mono _ _ _)
   | (with_reducible exact diff_Far.mono _ _ _)
   | (with_reducible exact diff_Kept.mono _ _ _)
   | (with_reducible exact edit_Apply.mono _ _ _)
   | (with_reducible exact edit_Cost.mono _ _)
   | (with_reducible exact edit_Invert.mono _ _ _)
   | (with_reducible exact edit_Move.mono _ _ _ _ _)
   | (with_reducible exact edit_Then.mono _ _ _ _)
   | (with_reducible exact LeO.refl _)
   | (with_reducible exact LeO.none _)
   | (with_reducible refine LeO.ite ?_ ?_)
   | (with_reducible refine LeO.bind ?_ (fun _ => ?_))
   | exact ih0 _ _ _ _
   | exact ih1 _ _ _ _
   | exact ih2 _ _ _ _ _ _ _
   | exact ih3 _ _ _ _
   | exact ih4 _ _ _ _ _ _ _
   | exact ih5 _ _ _ _ _ _ _ _ _ _
   | exact diff_Bytes.mono _ _ _
   | exact diff_Far.mono _ _ _
   | exact diff_Kept.mono _ _ _
   | exact edit_Apply.mono _ _ _
   | exact edit_Cost.mono _ _
   | exact edit_Invert.mono _ _ _
   | exact edit_Move.mono _ _ _ _ _
   | exact edit_Then.mono _ _ _ _
   | exact LeO.none _
   | refine LeO.ite ?_ ?_
   | refine LeO.bind ?_ (fun _ => ?_)
  ·intro y0 y1 y2 y3
   unfold caulkertop_WholeDiffs.j3
   repeat' first
   | (with_reducible exact ih0 _ _ _ _)
   | (with_reducible exact ih1 _ _ _ _)
   | (with_reducible exact ih2 _ _ _ _ _ _ _)
   | (with_reducible exact ih3 _ _ _ _)
   | (with_reducible exact ih4 _ _ _ _ _ _ _)
   | (with_reducible exact ih5 _ _ _ _ _ _ _ _ _ _)
   | (with_reducible exact diff_Bytes.mono _ _ _)
   | (with_reducible exact diff_Far.mono _ _ _)
   | (with_reducible exact diff_Kept.mono _ _ _)
   | (with_reducible exact edit_Apply.mono _ _ _)
   | (with_reducible exact edit_Cost.mono _ _)
   | (with_reducible exact edit_Invert.mono _ _ _)
   | (with_reducible exact edit_Move.mono _ _ _ _ _)
   | (with_reducible exact edit_Then.mono _ _ _ _)
   | (with_reducible exact LeO.refl _)
   | (with_reducible exact LeO.none _)
   | (with_reducible refine LeO.ite ?_ ?_)
   | (with_reducible refine LeO.bind ?_ (fun _ => ?_))
   | exact ih0 _ _ _ _
   | exact ih1 _ _ _ _
   | exact ih2 _ _ _ _ _ _ _
   | exact ih3 _ _ _ _
   | exact ih4 _ _ _ _ _ _ _
   | exact ih5 _ _ _ _ _ _ _ _ _ _
   | exact diff_Bytes.mono _ _ _
   | exact diff_Far.mono _ _ _
   | exact diff_Kept.mono _ _ _
   | exact edit_Apply.mono _ _ _
   | exact edit_Cost.mono _ _
   | exact edit_Invert.mono _ _ _
   | exact edit_Move.mono _ _ _ _ _
   | exact edit_Then.mono _ _ _ _
   | exact LeO.none _
   | refine LeO.ite ?_ ?_
   | refine LeO.bind ?_ (fun _ => ?_)
  ·intro y0 y1 y2 y3 y4 y5 y6
   unfold caulkertop_WholeDiffs.l0
   repeat' first
   | (with_reducible exact ih0 _ _ _ _)
   | (with_reducible exact ih1 _ _ _ _)
   | (with_reducible exact ih2 _ _ _ _ _ _ _)
   | (with_reducible exact ih3 _ _ _ _)
   | (with_reducible exact ih4 _ _ _ _ _ _ _)
   | (with_reducible exact ih5 _ _ _ _ _ _ _ _ _ _)
   | (with_reducible exact diff_Bytes.mono _ _ _)
   | (with_reducible exact diff_Far.mono _ _ _)
   | (with_reducible exact diff_Kept.mono _ _ _)
   | (with_reducible exact edit_Apply.mono _ _ _)
   | (with_reducible exact edit_Cost.mono _ _)
   | (with_reducible exact edit_Invert.mono _ _ _)
   | (with_reducible exact edit_Move.mono _ _ _ _ _)
   | (with_reducible exact edit_Then.mono _ _ _ _)
   | (with_reducible exact LeO.refl _)
   | (with_reducible exact LeO.none _)
   | (with_reducible refine LeO.ite ?_ ?_)
   | (with_reducible refine LeO.bind ?_ (fun _ => ?_))
   | exact ih0 _ _ _ _
   | exact ih1 _ _ _ _
   | exact ih2 _ _ _ _ _ _ _
   | exact ih3 _ _ _ _
   | exact ih4 _ _ _ _ _ _ _
   | exact ih5 _ _ _ _ _ _ _ _ _ _
   | exact diff_Bytes.mono _ _ _
   | exact diff_Far.mono _ _ _
   | exact diff_Kept.mono _ _ _
   | exact edit_Apply.mono _ _ _
   | exact edit_Cost.mono _ _
   | exact edit_Invert.mono _ _ _
   | exact edit_Move.mono _ _ _ _ _
   | exact edit_Then.mono _ _ _ _
   | exact LeO.none _
   | refine LeO.ite ?_ ?_
   | refine LeO.bind ?_ (fun _ => ?_)
  ·intro y0 y1 y2 y3 y4 y5 y6 y7 y8 y9
   unfold caulkertop_WholeDiffs.l1
   repeat' first
   | (with_reducible exact ih0 _ _ _ _)
   | (with_reducible exact ih1 _ _ _ _)
   | (with_reducible exact ih2 _ _ _ _ _ _ _)
   | (with_reducible exact ih3 _ _ _ _)
   | (with_reducible exact ih4 _ _ _ _ _ _ _)
   | (with_reducible exact ih5 _ _ _ _ _ _ _ _ _ _)
   | (with_reducible exact diff_Bytes.mono _ _ _)
   | (with_reducible exact diff_Far.mono _ _ _)
   | (with_reducible exact diff_Kept.mono _ _ _)
   | (with_reducible exact edit_Apply.mono _ _ _)
   | (with_reducible exact edit_Cost.mono _ _)
   | (with_reducible exact edit_Invert.mono _ _ _)
   | (with_reducible exact edit_Move.mono _ _ _ _ _)
   | (with_reducible exact edit_Then.mono _ _ _ _)
   | (with_reducible exact LeO.refl _)
   | (with_reducible exact LeO.none _)
   | (with_reducible refine LeO.ite ?_ ?_)
   | (with_reducible refine LeO.bind ?_ (fun _ => ?_))
   | exact ih0 _ _ _ _
   | exact ih1 _ _ _ _
   | exact ih2 _ _ _ _ _ _ _
   | exact ih3 _ _ _ _
   | exact ih4 _ _ _ _ _ _ _
   | exact ih5 _ _ _ _ _ _ _ _ _ _
   | exact diff_Bytes.mono _ _ _
   | exact diff_Far.mono _ _ _
   | exact diff_Kept.mono _ _ _
   | exact edit_Apply.mono _ _ _
   | exact edit_Cost.mono _ _
   | exact edit_Invert.mono _ _ _
   | exact edit_Move.mono _ _ _ _ _
   | exact edit_Then.mono _ _ _ _
   | exact LeO.none _
   | refine LeO.ite ?_ ?_
   | refine LeO.bind ?_ (fun _ => ?_)
theorem caulkertop_WholeDiffs.mono : ∀ a0 a1 a2 k, LeO (caulkertop_WholeDiffs.f k a0 a1 a2) (caulkertop_WholeDiffs.f (k + 1) a0 a1 a2) := by
 intro a0 a1 a2 k
 obtain ⟨ih0, ih1, ih2, ih3, ih4, ih5⟩ := caulkertop_WholeDiffs.mono_l k
 unfold caulkertop_WholeDiffs.f
 repeat' first
   | (with_reducible exact ih0 _ _ _ _)
   | (with_reducible exact ih1 _ _ _ _)
   | (with_reducible exact ih2 _ _ _ _ _ _ _)
   | (with_reducible exact ih3 _ _ _ _)
   | (with_reducible exact ih4 _ _ _ _ _ _ _)
   | (with_reducible exact ih5 _ _ _ _ _ _ _ _ _ _)
   | (with_reducible exact diff_Bytes.mono _ _ _)
   | (with_reducible exact diff_Far.mono _ _ _)
   | (with_reducible exact diff_Kept.mono _ _ _)
   | (with_reducible exact edit_Apply.mono _ _ _)
   | (with_reducible exact edit_Cost.mono _ _)
   | (with_reducible exact edit_Invert.mono _ _ _)
   | (with_reducible exact edit_Move.mono _ _ _ _ _)
   | (with_reducible exact edit_Then.mono _ _ _ _)
   | (with_reducible exact LeO.refl _)
   | (with_reducible exact LeO.none _)
   | (with_reducible refine LeO.ite ?_ ?_)
   | (with_reducible refine LeO.bind ?_ (fun _ => ?_))
   | exact ih0 _ _ _ _
   | exact ih1 _ _ _ _
   | exact ih2 _ _ _ _ _ _ _
   | exact ih3 _ _ _ _
   | exact ih4 _ _ _ _ _ _ _
   | exact ih5 _ _ _ _ _ _ _ _ _ _
   | exact diff_Bytes.mono _ _ _
   | exact diff_Far.mono _ _ _
   | exact diff_Kept.mono _ _ _
   | exact edit_Apply.mono _ _ _
   | exact edit_Cost.mono _ _
   | exact edit_Invert.mono _ _ _
   | exact edit_Move.mono _ _ _ _ _
   | exact edit_Then.mono _ _ _ _
   | exact LeO.none _
   | refine LeO.ite ?_ ?_
   | refine LeO.bind ?_ (fun _ => ?_)
set_option maxHeartbeats 8000000 in
set_option maxRecDepth 100000 in
theorem caulkertop_WholeDiffs.calls (k : Nat) (a0 : ByteArray) (a1 : ByteArray) (a2 : ByteArray) (r : Bool) (w : World) (h : caulkertop_WholeDiffs.f k a0 a1 a2 = some r) :
  Calls Try.prog 10 #[.string a0, .string a1, .string a2] w fun e w' => e = .returned (.bool r) ∧ Below w.heap.size w w' := by
 have hu39 := Try.underlying39
 have HB := Aside0.mk (Below.refl w.heap.size w)
 have H : ((diff_Far.f k (⟨#[97, 98]⟩ : ByteArray) (⟨#[98]⟩ : ByteArray)).bind fun bt511 => (if bt511.1 = 1 then (caulkertop_WholeDiffs.j0 k a0 a1 a2 (!bt511.2)) else (caulkertop_WholeDiffs.j0 k a0 a1 a2 true))) = some r := h
 clear h
 replace H := Option.bind_eq_some_iff.mp H
 obtain ⟨⟨t511, t512⟩, A40, H⟩ := H
 replace H : (if t511 = 1 then (caulkertop_WholeDiffs.j0 k a0 a1 a2 (!t512)) else (caulkertop_WholeDiffs.j0 k a0 a1 a2 true)) = some r := H
 have A4 := Aside0.mk A40
 clear A40
 have HC5 := Aside0.mk H
 clear H
 go_enter Try.func10, Try.ntmps10
 go_upto_region 2 with (first | (go_at_call 15; (with_reducible refine (diff_Far.calls k (⟨#[97, 98]⟩ : ByteArray) (⟨#[98]⟩ : ByteArray) t511 t512 _ A4.out).mono ?_); rintro e w6 ⟨rfl, hb⟩; replace HB := pxs HB hb; (try clear hb); (try clear hb2); (try clear hk); (try clear hi)))
 repeat (go_quiet (fail); go_upto_region 2 with (first | (go_at_call 15; (with_reducible refine (diff_Far.calls k (⟨#[97, 98]⟩ : ByteArray) (⟨#[98]⟩ : ByteArray) t511 t512 _ A4.out).mono ?_); rintro e w6 ⟨rfl, hb⟩; replace HB := pxs HB hb; (try clear hb); (try clear hb2); (try clear hk); (try clear hi))))
 (try simp only [Act.put, List.setIfInBounds_toArray, List.set_cons_zero, List.set_cons_succ])
 go_cut [39] (fun v39 wc => ∃ (kq : Nat) (x39_4 : Bool), v39 = .bool x39_4 ∧ Aside0 (caulkertop_WholeDiffs.j0 kq a0 a1 a2 x39_4 = some r) ∧ Aside0 (kq ≤ k) ∧ Aside0 (Below w.heap.size w wc))
 case first =>
  have H := HC5.out
  clear HC5
  by_cases c7 : t511 = 1
  ·rw [if_pos c7] at H
   have c7b0 : (t511 == 1) = true := beq_iff_eq.mpr c7
   have c7b1 : (t511 != 1) = false := bne_eq_false_iff_eq.mpr c7
   clear c7
   (first | rw [c7b0] | (simp only [i64_w, i32_w]; rw [c7b0]) | skip)
   have H' := Aside0.mk H
   clear H
   go_wp2
   repeat (go_quiet (fail); try go_wp2)
   go_meet
   case rel => exact ⟨_, (!t512), (by first | rfl | (simp; done) | (simp [*]; done)), H', ⟨by first | omega | exact Nat.le_refl _⟩, ⟨pxb HB⟩⟩
  ·rw [if_neg c7] at H
   have c7b0 : (t511 == 1) = false := beq_eq_false_iff_ne.mpr c7
   have c7b1 : (t511 != 1) = true := bne_iff_ne.mpr c7
   (first | rw [c7b0] | (simp only [i64_w, i32_w]; rw [c7b0]) | skip)
   have H' := Aside0.mk H
   clear H
   go_wp2
   repeat (go_quiet (fail); try go_wp2)
   go_meet
   case rel => exact ⟨_, (true), (by first | rfl | (simp; done) | (simp [*]; done)), H', ⟨by first | omega | exact Nat.le_refl _⟩, ⟨pxb HB⟩⟩
 case rest => as_aux_lemma =>
  clear HC5
  (try clear c1); (try clear p2); (try clear c7); (try clear c7b0); (try clear c7b1)
  obtain ⟨kq, x39_4, rfl, HA, HJ4, HB⟩ := hcut
  cases kq with
  | zero => exact absurd HA.out (by simp [caulkertop_WholeDiffs.j0])
  | succ kj4 =>
   have H := HA.out
   clear HA
   simp only [caulkertop_WholeDiffs.j0] at H
   by_cases c8 : x39_4 = true
   ·subst c8
    have H1 : (none) = some r := by rw [if_pos rfl] at H; exact H
    clear H
    have H := H1
    clear H1
    exact absurd H (by simp)
   ·replace c8 := Bool.eq_false_iff.mpr c8
    subst c8
    have H1 : (if (a0.size : Int) > 120 then (caulkertop_WholeDiffs.j1 kj4 a0 a1 a2 true) else (if (a1.size : Int) > 120 then (caulkertop_WholeDiffs.j1 kj4 a0 a1 a2 true) else (caulkertop_WholeDiffs.j1 kj4 a0 a1 a2 (decide ((a2.size : Int) > 120))))) = some r := by rw [if_neg (show ¬ (false = true) by decide)] at H; exact H
    clear H
    have H := H1
    clear H1
    have HC9 := Aside0.mk H
    clear H
    go_upto_region 4 with (fail)
    repeat (go_quiet (fail); go_upto_region 4 with (fail))
    go_cut [52] (fun v52 wc => ∃ (kq : Nat) (x52_8 : Bool), v52 = .bool x52_8 ∧ Aside0 (caulkertop_WholeDiffs.j1 kq a0 a1 a2 x52_8 = some r) ∧ Aside0 (kq ≤ kj4) ∧ Aside0 (Below w.heap.size w wc))
    case first =>
     have H := HC9.out
     clear HC9
     by_cases c10 : (a0.size : Int) > 120
     ·rw [if_pos c10] at H
      have c10b0 : decide (120 < (a0.size : Int)) = true := decide_eq_true c10
      have c10b1 : decide (120 < a0.size) = true := decide_eq_true (by omega)
      clear c10
      (first | rw [c10b0] | (simp only [i64_w, i32_w]; rw [c10b0]) | skip)
      have H' := Aside0.mk H
      clear H
      go_wp2
      repeat (go_quiet (fail); try go_wp2)
      go_meet
      case rel => exact ⟨_, (true), (by first | rfl | (simp; done) | (simp [*]; done)), H', ⟨by have := HJ4.out; first | omega | exact Nat.le_refl _⟩, ⟨pxb HB⟩⟩
     ·rw [if_neg c10] at H
      have c10b0 : decide (120 < (a0.size : Int)) = false := decide_eq_false c10
      have c10b1 : decide (120 < a0.size) = false := decide_eq_false (by omega)
      clear c10
      (first | rw [c10b0] | (simp only [i64_w, i32_w]; rw [c10b0]) | skip)
      by_cases c11 : (a1.size : Int) > 120
      ·rw [if_pos c11] at H
       have c11b0 : decide (120 < (a1.size : Int)) = true := decide_eq_true c11
       have c11b1 : decide (120 < a1.size) = true := decide_eq_true (by omega)
       clear c11
       have H' := Aside0.mk H
       clear H
       go_wp2
       repeat (go_quiet (fail); try go_wp2)
       go_meet
       case rel => exact ⟨_, (true), (by first | rfl | (simp; done) | (simp [*]; done)), H', ⟨by have := HJ4.out; first | omega | exact Nat.le_refl _⟩, ⟨pxb HB⟩⟩
      ·rw [if_neg c11] at H
       have c11b0 : decide (120 < (a1.size : Int)) = false := decide_eq_false c11
       have c11b1 : decide (120 < a1.size) = false := decide_eq_false (by omega)
       clear c11
       have H' := Aside0.mk H
       clear H
       go_wp2
       repeat (go_quiet (fail); try go_wp2)
       go_meet
       case rel => exact ⟨_, (decide ((a2.size : Int) > 120)), (by first | rfl | (simp; done) | (simp [*]; done)), H', ⟨by have := HJ4.out; first | omega | exact Nat.le_refl _⟩, ⟨pxb HB⟩⟩
    case rest => as_aux_lemma =>
     clear HC9
     (try clear c1); (try clear p2); (try clear c7); (try clear c7b0); (try clear c7b1); (try clear c8); (try clear c10); (try clear c10b0); (try clear c10b1); (try clear c11); (try clear c11b0); (try clear c11b1)
     obtain ⟨kq, x52_8, rfl, HA, HJ8, HB⟩ := hcut
     cases kq with
     | zero => exact absurd HA.out (by simp [caulkertop_WholeDiffs.j1])
     | succ kj8 =>
      have H := HA.out
      clear HA
      simp only [caulkertop_WholeDiffs.j1] at H
      by_cases c12 : x52_8 = true
      ·subst c12
       have H1 : (some true) = some r := by rw [if_pos rfl] at H; exact H
       clear H
       have H := H1
       clear H1
       obtain rfl := Option.some.inj H
       go_wp2
       repeat (go_quiet (fail); try go_wp2)
       go_ret
       exact ⟨by first | rfl | (simp [errW_none, errW_some] <;> rfl) | (simp [*, errW_none, errW_some] <;> rfl), pxb HB⟩
      ·replace c12 := Bool.eq_false_iff.mpr c12
       subst c12
       have H1 : ((diff_Bytes.f kj8 a0 a1).bind fun bt513 => ((diff_Bytes.f kj8 a1 a2).bind fun bt518 => ((diff_Bytes.f kj8 a0 a2).bind fun bt523 => ((edit_Then.f kj8 a0 bt513.1 bt518.1).bind fun bt528 => (if (wrap64 ((wrap64 ((wrap64 (bt513.2.2 + bt518.2.2)) + bt523.2.2)) + bt528.2)) = 0 then (caulkertop_WholeDiffs.j2 kj8 a0 a2 bt513.1 bt518.1 bt523.1 bt528.1 (!bt523.2.1)) else (caulkertop_WholeDiffs.j2 kj8 a0 a2 bt513.1 bt518.1 bt523.1 bt528.1 true)))))) = some r := by rw [if_neg (show ¬ (false = true) by decide)] at H; exact H
       clear H
       have H := H1
       clear H1
       replace H := Option.bind_eq_some_iff.mp H
       obtain ⟨⟨t513, t514, t515⟩, A130, H⟩ := H
       replace H : ((diff_Bytes.f kj8 a1 a2).bind fun bt518 => ((diff_Bytes.f kj8 a0 a2).bind fun bt523 => ((edit_Then.f kj8 a0 t513 bt518.1).bind fun bt528 => (if (wrap64 ((wrap64 ((wrap64 (t515 + bt518.2.2)) + bt523.2.2)) + bt528.2)) = 0 then (caulkertop_WholeDiffs.j2 kj8 a0 a2 t513 bt518.1 bt523.1 bt528.1 (!bt523.2.1)) else (caulkertop_WholeDiffs.j2 kj8 a0 a2 t513 bt518.1 bt523.1 bt528.1 true))))) = some r := H
       have A13 := Aside0.mk A130
       clear A130
       replace H := Option.bind_eq_some_iff.mp H
       obtain ⟨⟨t518, t519, t520⟩, A140, H⟩ := H
       replace H : ((diff_Bytes.f kj8 a0 a2).bind fun bt523 => ((edit_Then.f kj8 a0 t513 t518).bind fun bt528 => (if (wrap64 ((wrap64 ((wrap64 (t515 + t520)) + bt523.2.2)) + bt528.2)) = 0 then (caulkertop_WholeDiffs.j2 kj8 a0 a2 t513 t518 bt523.1 bt528.1 (!bt523.2.1)) else (caulkertop_WholeDiffs.j2 kj8 a0 a2 t513 t518 bt523.1 bt528.1 true)))) = some r := H
       have A14 := Aside0.mk A140
       clear A140
       replace H := Option.bind_eq_some_iff.mp H
       obtain ⟨⟨t523, t524, t525⟩, A150, H⟩ := H
       replace H : ((edit_Then.f kj8 a0 t513 t518).bind fun bt528 => (if (wrap64 ((wrap64 ((wrap64 (t515 + t520)) + t525)) + bt528.2)) = 0 then (caulkertop_WholeDiffs.j2 kj8 a0 a2 t513 t518 t523 bt528.1 (!t524)) else (caulkertop_WholeDiffs.j2 kj8 a0 a2 t513 t518 t523 bt528.1 true))) = some r := H
       have A15 := Aside0.mk A150
       clear A150
       replace H := Option.bind_eq_some_iff.mp H
       obtain ⟨⟨t528, t529⟩, A160, H⟩ := H
       replace H : (if (wrap64 ((wrap64 ((wrap64 (t515 + t520)) + t525)) + t529)) = 0 then (caulkertop_WholeDiffs.j2 kj8 a0 a2 t513 t518 t523 t528 (!t524)) else (caulkertop_WholeDiffs.j2 kj8 a0 a2 t513 t518 t523 t528 true)) = some r := H
       have A16 := Aside0.mk A160
       clear A160
       have HC17 := Aside0.mk H
       clear H
       go_upto_region 10 with (first | (go_at_call 12; (with_reducible refine (diff_Bytes.calls kj8 a0 a1 t513 t514 t515 _ A13.out).mono ?_); rintro e w18 ⟨v516, rfl, ho0, hb⟩; have HO517 := Aside0.mk (Kd.R_lower ho0 (below_size (pxb HB))); replace HB := pxs HB hb; (try clear hb); (try clear hb2); (try clear hk); (try clear hi); (try clear ho0)) | (go_at_call 12; (with_reducible refine (diff_Bytes.calls kj8 a1 a2 t518 t519 t520 _ A14.out).mono ?_); rintro e w19 ⟨v521, rfl, ho0, hb⟩; have HO522 := Aside0.mk (Kd.R_lower (Kd.R_new' ho0 (Kd.R_lt (pxr HO517))) (below_size (pxb HB))); replace HO517 := Aside0.mk (Kd.R_elder' (pxr HO517) (Kd.R_base ho0) hb); replace HB := pxs HB hb; (try clear hb); (try clear hb2); (try clear hk); (try clear hi); (try clear ho0)) | (go_at_call 12; (with_reducible refine (diff_Bytes.calls kj8 a0 a2 t523 t524 t525 _ A15.out).mono ?_); rintro e w20 ⟨v526, rfl, ho0, hb⟩; have HO527 := Aside0.mk (Kd.R_lower (Kd.R_new' (Kd.R_new' ho0 (Kd.R_lt (pxr HO517))) (Kd.R_lt (pxr HO522))) (below_size (pxb HB))); replace HO517 := Aside0.mk (Kd.R_elder' (pxr HO517) (Kd.R_base ho0) hb); replace HO522 := Aside0.mk (Kd.R_elder' (pxr HO522) (Kd.R_base ho0) hb); replace HB := pxs HB hb; (try clear hb); (try clear hb2); (try clear hk); (try clear hi); (try clear ho0); obtain ⟨Ao21, co21, eo21⟩ := Kd.R_slice HO517.out; subst eo21; obtain ⟨Ao22, co22, eo22⟩ := Kd.R_slice HO522.out; subst eo22) | (go_at_call 21; (with_reducible refine (edit_Then.calls kj8 a0 _ _ t513 _ _ t518 t528 t529 _ ?side1 ?side2 ?side3 ?side4 A16.out).mono ?_); (case side1 => repeat (first | exact (Kd.R_reads' HO517.out).2.2 | (with_reducible refine Kd.C_alloc ?_ _) | (with_reducible refine Kd.C_drewN ?_ _) | (with_reducible refine Kd.C_drew ?_))); (case side2 => exact (Kd.R_reads' HO517.out).2.1); (case side3 => repeat (first | exact (Kd.R_reads' HO522.out).2.2 | (with_reducible refine Kd.C_alloc ?_ _) | (with_reducible refine Kd.C_drewN ?_ _) | (with_reducible refine Kd.C_drew ?_))); (case side4 => exact (Kd.R_reads' HO522.out).2.1); rintro e w23 ⟨v530, rfl, ho0, hb⟩; have HO531 := Aside0.mk (Kd.R_lower (Kd.R_new' (Kd.R_new' (Kd.R_new' ho0 (Kd.R_lt (pxr HO517))) (Kd.R_lt (pxr HO522))) (Kd.R_lt (pxr HO527))) (below_size (pxb HB))); replace HO517 := Aside0.mk (Kd.R_elder' (pxr HO517) (Kd.R_base ho0) hb); replace HO522 := Aside0.mk (Kd.R_elder' (pxr HO522) (Kd.R_base ho0) hb); replace HO527 := Aside0.mk (Kd.R_elder' (pxr HO527) (Kd.R_base ho0) hb); replace HB := pxs HB hb; (try clear hb); (try clear hb2); (try clear hk); (try clear hi); (try clear ho0)))
       repeat (go_quiet (fail); go_upto_region 10 with (first | (go_at_call 12; (with_reducible refine (diff_Bytes.calls kj8 a0 a1 t513 t514 t515 _ A13.out).mono ?_); rintro e w18 ⟨v516, rfl, ho0, hb⟩; have HO517 := Aside0.mk (Kd.R_lower ho0 (below_size (pxb HB))); replace HB := pxs HB hb; (try clear hb); (try clear hb2); (try clear hk); (try clear hi); (try clear ho0)) | (go_at_call 12; (with_reducible refine (diff_Bytes.calls kj8 a1 a2 t518 t519 t520 _ A14.out).mono ?_); rintro e w19 ⟨v521, rfl, ho0, hb⟩; have HO522 := Aside0.mk (Kd.R_lower (Kd.R_new' ho0 (Kd.R_lt (pxr HO517))) (below_size (pxb HB))); replace HO517 := Aside0.mk (Kd.R_elder' (pxr HO517) (Kd.R_base ho0) hb); replace HB := pxs HB hb; (try clear hb); (try clear hb2); (try clear hk); (try clear hi); (try clear ho0)) | (go_at_call 12; (with_reducible refine (diff_Bytes.calls kj8 a0 a2 t523 t524 t525 _ A15.out).mono ?_); rintro e w20 ⟨v526, rfl, ho0, hb⟩; have HO527 := Aside0.mk (Kd.R_lower (Kd.R_new' (Kd.R_new' ho0 (Kd.R_lt (pxr HO517))) (Kd.R_lt (pxr HO522))) (below_size (pxb HB))); replace HO517 := Aside0.mk (Kd.R_elder' (pxr HO517) (Kd.R_base ho0) hb); replace HO522 := Aside0.mk (Kd.R_elder' (pxr HO522) (Kd.R_base ho0) hb); replace HB := pxs HB hb; (try clear hb); (try clear hb2); (try clear hk); (try clear hi); (try clear ho0); obtain ⟨Ao21, co21, eo21⟩ := Kd.R_slice HO517.out; subst eo21; obtain ⟨Ao22, co22, eo22⟩ := Kd.R_slice HO522.out; subst eo22) | (go_at_call 21; (with_reducible refine (edit_Then.calls kj8 a0 _ _ t513 _ _ t518 t528 t529 _ ?side1 ?side2 ?side3 ?side4 A16.out).mono ?_); (case side1 => repeat (first | exact (Kd.R_reads' HO517.out).2.2 | (with_reducible refine Kd.C_alloc ?_ _) | (with_reducible refine Kd.C_drewN ?_ _) | (with_reducible refine Kd.C_drew ?_))); (case side2 => exact (Kd.R_reads' HO517.out).2.1); (case side3 => repeat (first | exact (Kd.R_reads' HO522.out).2.2 | (with_reducible refine Kd.C_alloc ?_ _) | (with_reducible refine Kd.C_drewN ?_ _) | (with_reducible refine Kd.C_drew ?_))); (case side4 => exact (Kd.R_reads' HO522.out).2.1); rintro e w23 ⟨v530, rfl, ho0, hb⟩; have HO531 := Aside0.mk (Kd.R_lower (Kd.R_new' (Kd.R_new' (Kd.R_new' ho0 (Kd.R_lt (pxr HO517))) (Kd.R_lt (pxr HO522))) (Kd.R_lt (pxr HO527))) (below_size (pxb HB))); replace HO517 := Aside0.mk (Kd.R_elder' (pxr HO517) (Kd.R_base ho0) hb); replace HO522 := Aside0.mk (Kd.R_elder' (pxr HO522) (Kd.R_base ho0) hb); replace HO527 := Aside0.mk (Kd.R_elder' (pxr HO527) (Kd.R_base ho0) hb); replace HB := pxs HB hb; (try clear hb); (try clear hb2); (try clear hk); (try clear hi); (try clear ho0))))
       (try simp only [Act.put, List.setIfInBounds_toArray, List.set_cons_zero, List.set_cons_succ])
       go_cut [92] (fun v92 wc => ∃ (kq : Nat) (x92_16 : Bool), v92 = .bool x92_16 ∧ Aside0 (caulkertop_WholeDiffs.j2 kq a0 a2 t513 t518 t523 t528 x92_16 = some r) ∧ Aside0 (kq ≤ kj8) ∧ Aside0 (Kd.R k41 41 wc w.heap.size (fun k_ => some k_ ≠ ((.slice Ao22 t518.length co22) : Value).ownBlock ∧ some k_ ≠ (v526 : Value).ownBlock ∧ some k_ ≠ (v530 : Value).ownBlock) (.slice Ao21 t513.length co21) t513) ∧ Aside0 (Kd.R k41 41 wc w.heap.size (fun k_ => some k_ ≠ ((.slice Ao21 t513.length co21) : Value).ownBlock ∧ some k_ ≠ (v526 : Value).ownBlock ∧ some k_ ≠ (v530 : Value).ownBlock) (.slice Ao22 t518.length co22) t518) ∧ Aside0 (Kd.R k41 41 wc w.heap.size (fun k_ => some k_ ≠ ((.slice Ao21 t513.length co21) : Value).ownBlock ∧ some k_ ≠ ((.slice Ao22 t518.length co22) : Value).ownBlock ∧ some k_ ≠ (v530 : Value).ownBlock) v526 t523) ∧ Aside0 (Kd.R k41 41 wc w.heap.size (fun k_ => some k_ ≠ ((.slice Ao21 t513.length co21) : Value).ownBlock ∧ some k_ ≠ ((.slice Ao22 t518.length co22) : Value).ownBlock ∧ some k_ ≠ (v526 : Value).ownBlock) v530 t528) ∧ Aside0 (Below w.heap.size w wc))
       case first =>
        have H := HC17.out
        clear HC17
        by_cases c24 : (wrap64 ((wrap64 ((wrap64 (t515 + t520)) + t525)) + t529)) = 0
        ·rw [if_pos c24] at H
         have c24b0 : ((wrap64 ((wrap64 ((wrap64 (t515 + t520)) + t525)) + t529)) == 0) = true := beq_iff_eq.mpr c24
         have c24b1 : ((wrap64 ((wrap64 ((wrap64 (t515 + t520)) + t525)) + t529)) != 0) = false := bne_eq_false_iff_eq.mpr c24
         clear c24
         (first | rw [c24b0] | (simp only [i64_w, i32_w]; rw [c24b0]) | skip)
         have H' := Aside0.mk H
         clear H
         go_wp2
         repeat (go_quiet (fail); try go_wp2)
         go_meet
         case rel => exact ⟨_, (!t524), (by first | rfl | (simp; done) | (simp [*]; done)), H', ⟨by have := HJ4.out; have := HJ8.out; first | omega | exact Nat.le_refl _⟩, ⟨by (with_reducible repeat (first | apply Kd.R_alloc | apply Kd.R_drewN | apply Kd.R_drew)); exact Kd.R_mono HO517.out (fun _ hk => ⟨hk.1.1.2, ⟨hk.1.2, hk.2⟩⟩)⟩, ⟨by (with_reducible repeat (first | apply Kd.R_alloc | apply Kd.R_drewN | apply Kd.R_drew)); exact Kd.R_mono HO522.out (fun _ hk => ⟨hk.1.1.2, ⟨hk.1.2, hk.2⟩⟩)⟩, ⟨by (with_reducible repeat (first | apply Kd.R_alloc | apply Kd.R_drewN | apply Kd.R_drew)); exact Kd.R_mono HO527.out (fun _ hk => ⟨hk.1.1.2, ⟨hk.1.2, hk.2⟩⟩)⟩, ⟨by (with_reducible repeat (first | apply Kd.R_alloc | apply Kd.R_drewN | apply Kd.R_drew)); exact Kd.R_mono HO531.out (fun _ hk => ⟨hk.1.1.2, ⟨hk.1.2, hk.2⟩⟩)⟩, ⟨pxb HB⟩⟩
        ·rw [if_neg c24] at H
         have c24b0 : ((wrap64 ((wrap64 ((wrap64 (t515 + t520)) + t525)) + t529)) == 0) = false := beq_eq_false_iff_ne.mpr c24
         have c24b1 : ((wrap64 ((wrap64 ((wrap64 (t515 + t520)) + t525)) + t529)) != 0) = true := bne_iff_ne.mpr c24
         (first | rw [c24b0] | (simp only [i64_w, i32_w]; rw [c24b0]) | skip)
         have H' := Aside0.mk H
         clear H
         go_wp2
         repeat (go_quiet (fail); try go_wp2)
         go_meet
         case rel => exact ⟨_, (true), (by first | rfl | (simp; done) | (simp [*]; done)), H', ⟨by have := HJ4.out; have := HJ8.out; first | omega | exact Nat.le_refl _⟩, ⟨by (with_reducible repeat (first | apply Kd.R_alloc | apply Kd.R_drewN | apply Kd.R_drew)); exact Kd.R_mono HO517.out (fun _ hk => ⟨hk.1.1.2, ⟨hk.1.2, hk.2⟩⟩)⟩, ⟨by (with_reducible repeat (first | apply Kd.R_alloc | apply Kd.R_drewN | apply Kd.R_drew)); exact Kd.R_mono HO522.out (fun _ hk => ⟨hk.1.1.2, ⟨hk.1.2, hk.2⟩⟩)⟩, ⟨by (with_reducible repeat (first | apply Kd.R_alloc | apply Kd.R_drewN | apply Kd.R_drew)); exact Kd.R_mono HO527.out (fun _ hk => ⟨hk.1.1.2, ⟨hk.1.2, hk.2⟩⟩)⟩, ⟨by (with_reducible repeat (first | apply Kd.R_alloc | apply Kd.R_drewN | apply Kd.R_drew)); exact Kd.R_mono HO531.out (fun _ hk => ⟨hk.1.1.2, ⟨hk.1.2, hk.2⟩⟩)⟩, ⟨pxb HB⟩⟩
       case rest => as_aux_lemma =>
        clear HC17
        (try clear c1); (try clear c2); (try clear p2); (try clear p6); (try clear c7); (try clear c7b0); (try clear c7b1); (try clear c8); (try clear c10); (try clear c10b0); (try clear c10b1); (try clear c11); (try clear c11b0); (try clear c11b1); (try clear c12); (try clear c24); (try clear c24b0); (try clear c24b1)
        obtain ⟨kq, x92_16, rfl, HA, HJ16, HO_9, HO_12, HO_15, HO_18, HB⟩ := hcut
        cases kq with
        | zero => exact absurd HA.out (by simp [caulkertop_WholeDiffs.j2])
        | succ kj16 =>
         have H := HA.out
         clear HA
         simp only [caulkertop_WholeDiffs.j2] at H
         by_cases c25 : x92_16 = true
         ·subst c25
          have H1 : (none) = some r := by rw [if_pos rfl] at H; exact H
          clear H
          have H := H1
          clear H1
          exact absurd H (by simp)
         ·replace c25 := Bool.eq_false_iff.mpr c25
          subst c25
          have H1 : ((edit_Apply.f kj16 a0 t528).bind fun bt532 => ((edit_Invert.f kj16 a0 t528).bind fun bt534 => ((edit_Apply.f kj16 a2 bt534.1).bind fun bt538 => (if (wrap64 ((wrap64 (bt532.2 + bt534.2)) + bt538.2)) = 0 then (if bt532.1.toList = a2.toList then (if bt538.1.toList = a0.toList then ((edit_Cost.f kj16 t528).bind fun t540 => ((edit_Cost.f kj16 t523).bind fun t541 => (if t540 < t541 then (caulkertop_WholeDiffs.j3 kj16 a0 a2 t523 true) else ((edit_Cost.f kj16 t528).bind fun t542 => ((edit_Cost.f kj16 t513).bind fun t543 => ((edit_Cost.f kj16 t518).bind fun t544 => (caulkertop_WholeDiffs.j3 kj16 a0 a2 t523 (decide (t542 > (wrap64 (t543 + t544))))))))))) else (caulkertop_WholeDiffs.j3 kj16 a0 a2 t523 true)) else (caulkertop_WholeDiffs.j3 kj16 a0 a2 t523 true)) else (caulkertop_WholeDiffs.j3 kj16 a0 a2 t523 true))))) = some r := by rw [if_neg (show ¬ (false = true) by decide)] at H; exact H
          clear H
          have H := H1
          clear H1
          replace H := Option.bind_eq_some_iff.mp H
          obtain ⟨⟨t532, t533⟩, A260, H⟩ := H
          replace H : ((edit_Invert.f kj16 a0 t528).bind fun bt534 => ((edit_Apply.f kj16 a2 bt534.1).bind fun bt538 => (if (wrap64 ((wrap64 (t533 + bt534.2)) + bt538.2)) = 0 then (if t532.toList = a2.toList then (if bt538.1.toList = a0.toList then ((edit_Cost.f kj16 t528).bind fun t540 => ((edit_Cost.f kj16 t523).bind fun t541 => (if t540 < t541 then (caulkertop_WholeDiffs.j3 kj16 a0 a2 t523 true) else ((edit_Cost.f kj16 t528).bind fun t542 => ((edit_Cost.f kj16 t513).bind fun t543 => ((edit_Cost.f kj16 t518).bind fun t544 => (caulkertop_WholeDiffs.j3 kj16 a0 a2 t523 (decide (t542 > (wrap64 (t543 + t544))))))))))) else (caulkertop_WholeDiffs.j3 kj16 a0 a2 t523 true)) else (caulkertop_WholeDiffs.j3 kj16 a0 a2 t523 true)) else (caulkertop_WholeDiffs.j3 kj16 a0 a2 t523 true)))) = some r := H
          have A26 := Aside0.mk A260
          clear A260
          replace H := Option.bind_eq_some_iff.mp H
          obtain ⟨⟨t534, t535⟩, A270, H⟩ := H
          replace H : ((edit_Apply.f kj16 a2 t534).bind fun bt538 => (if (wrap64 ((wrap64 (t533 + t535)) + bt538.2)) = 0 then (if t532.toList = a2.toList then (if bt538.1.toList = a0.toList then ((edit_Cost.f kj16 t528).bind fun t540 => ((edit_Cost.f kj16 t523).bind fun t541 => (if t540 < t541 then (caulkertop_WholeDiffs.j3 kj16 a0 a2 t523 true) else ((edit_Cost.f kj16 t528).bind fun t542 => ((edit_Cost.f kj16 t513).bind fun t543 => ((edit_Cost.f kj16 t518).bind fun t544 => (caulkertop_WholeDiffs.j3 kj16 a0 a2 t523 (decide (t542 > (wrap64 (t543 + t544))))))))))) else (caulkertop_WholeDiffs.j3 kj16 a0 a2 t523 true)) else (caulkertop_WholeDiffs.j3 kj16 a0 a2 t523 true)) else (caulkertop_WholeDiffs.j3 kj16 a0 a2 t523 true))) = some r := H
          have A27 := Aside0.mk A270
          clear A270
          replace H := Option.bind_eq_some_iff.mp H
          obtain ⟨⟨t538, t539⟩, A280, H⟩ := H
          replace H : (if (wrap64 ((wrap64 (t533 + t535)) + t539)) = 0 then (if t532.toList = a2.toList then (if t538.toList = a0.toList then ((edit_Cost.f kj16 t528).bind fun t540 => ((edit_Cost.f kj16 t523).bind fun t541 => (if t540 < t541 then (caulkertop_WholeDiffs.j3 kj16 a0 a2 t523 true) else ((edit_Cost.f kj16 t528).bind fun t542 => ((edit_Cost.f kj16 t513).bind fun t543 => ((edit_Cost.f kj16 t518).bind fun t544 => (caulkertop_WholeDiffs.j3 kj16 a0 a2 t523 (decide (t542 > (wrap64 (t543 + t544))))))))))) else (caulkertop_WholeDiffs.j3 kj16 a0 a2 t523 true)) else (caulkertop_WholeDiffs.j3 kj16 a0 a2 t523 true)) else (caulkertop_WholeDiffs.j3 kj16 a0 a2 t523 true)) = some r := H
          have A28 := Aside0.mk A280
          clear A280
          have HC29 := Aside0.mk H
          clear H
          obtain ⟨Ao30, co30, eo30⟩ := Kd.R_slice HO_18.out
          subst eo30
          go_upto_region 15 with (first | (go_at_call 22; (with_reducible refine (edit_Apply.calls kj16 a0 _ _ t528 t532 t533 _ ?side1 ?side2 A26.out).mono ?_); (case side1 => repeat (first | exact (Kd.R_reads' HO_18.out).2.2 | (with_reducible refine Kd.C_alloc ?_ _) | (with_reducible refine Kd.C_drewN ?_ _) | (with_reducible refine Kd.C_drew ?_))); (case side2 => exact (Kd.R_reads' HO_18.out).2.1); rintro e w31 ⟨rfl, hb⟩; replace HO_9 := Aside0.mk (Kd.R_below (pxr HO_9) hb); replace HO_12 := Aside0.mk (Kd.R_below (pxr HO_12) hb); replace HO_15 := Aside0.mk (Kd.R_below (pxr HO_15) hb); replace HO_18 := Aside0.mk (Kd.R_below (pxr HO_18) hb); replace HB := pxs HB hb; (try clear hb); (try clear hb2); (try clear hk); (try clear hi)) | (go_at_call 23; (with_reducible refine (edit_Invert.calls kj16 a0 _ _ t528 t534 t535 _ ?side1 ?side2 A27.out).mono ?_); (case side1 => repeat (first | exact (Kd.R_reads' HO_18.out).2.2 | (with_reducible refine Kd.C_alloc ?_ _) | (with_reducible refine Kd.C_drewN ?_ _) | (with_reducible refine Kd.C_drew ?_))); (case side2 => exact (Kd.R_reads' HO_18.out).2.1); rintro e w32 ⟨v536, rfl, ho0, hb⟩; have HO537 := Aside0.mk (Kd.R_lower (Kd.R_new' (Kd.R_new' (Kd.R_new' (Kd.R_new' ho0 (Kd.R_lt (pxr HO_9))) (Kd.R_lt (pxr HO_12))) (Kd.R_lt (pxr HO_15))) (Kd.R_lt (pxr HO_18))) (below_size (pxb HB))); replace HO_9 := Aside0.mk (Kd.R_elder' (pxr HO_9) (Kd.R_base ho0) hb); replace HO_12 := Aside0.mk (Kd.R_elder' (pxr HO_12) (Kd.R_base ho0) hb); replace HO_15 := Aside0.mk (Kd.R_elder' (pxr HO_15) (Kd.R_base ho0) hb); replace HO_18 := Aside0.mk (Kd.R_elder' (pxr HO_18) (Kd.R_base ho0) hb); replace HB := pxs HB hb; (try clear hb); (try clear hb2); (try clear hk); (try clear hi); (try clear ho0); obtain ⟨Ao33, co33, eo33⟩ := Kd.R_slice HO537.out; subst eo33) | (go_at_call 22; (with_reducible refine (edit_Apply.calls kj16 a2 _ _ t534 t538 t539 _ ?side1 ?side2 A28.out).mono ?_); (case side1 => repeat (first | exact (Kd.R_reads' HO537.out).2.2 | (with_reducible refine Kd.C_alloc ?_ _) | (with_reducible refine Kd.C_drewN ?_ _) | (with_reducible refine Kd.C_drew ?_))); (case side2 => exact (Kd.R_reads' HO537.out).2.1); rintro e w34 ⟨rfl, hb⟩; replace HO_9 := Aside0.mk (Kd.R_below (pxr HO_9) hb); replace HO_12 := Aside0.mk (Kd.R_below (pxr HO_12) hb); replace HO_15 := Aside0.mk (Kd.R_below (pxr HO_15) hb); replace HO_18 := Aside0.mk (Kd.R_below (pxr HO_18) hb); replace HO537 := Aside0.mk (Kd.R_below (pxr HO537) hb); replace HB := pxs HB hb; (try clear hb); (try clear hb2); (try clear hk); (try clear hi)))
          repeat (go_quiet (fail); go_upto_region 15 with (first | (go_at_call 22; (with_reducible refine (edit_Apply.calls kj16 a0 _ _ t528 t532 t533 _ ?side1 ?side2 A26.out).mono ?_); (case side1 => repeat (first | exact (Kd.R_reads' HO_18.out).2.2 | (with_reducible refine Kd.C_alloc ?_ _) | (with_reducible refine Kd.C_drewN ?_ _) | (with_reducible refine Kd.C_drew ?_))); (case side2 => exact (Kd.R_reads' HO_18.out).2.1); rintro e w31 ⟨rfl, hb⟩; replace HO_9 := Aside0.mk (Kd.R_below (pxr HO_9) hb); replace HO_12 := Aside0.mk (Kd.R_below (pxr HO_12) hb); replace HO_15 := Aside0.mk (Kd.R_below (pxr HO_15) hb); replace HO_18 := Aside0.mk (Kd.R_below (pxr HO_18) hb); replace HB := pxs HB hb; (try clear hb); (try clear hb2); (try clear hk); (try clear hi)) | (go_at_call 23; (with_reducible refine (edit_Invert.calls kj16 a0 _ _ t528 t534 t535 _ ?side1 ?side2 A27.out).mono ?_); (case side1 => repeat (first | exact (Kd.R_reads' HO_18.out).2.2 | (with_reducible refine Kd.C_alloc ?_ _) | (with_reducible refine Kd.C_drewN ?_ _) | (with_reducible refine Kd.C_drew ?_))); (case side2 => exact (Kd.R_reads' HO_18.out).2.1); rintro e w32 ⟨v536, rfl, ho0, hb⟩; have HO537 := Aside0.mk (Kd.R_lower (Kd.R_new' (Kd.R_new' (Kd.R_new' (Kd.R_new' ho0 (Kd.R_lt (pxr HO_9))) (Kd.R_lt (pxr HO_12))) (Kd.R_lt (pxr HO_15))) (Kd.R_lt (pxr HO_18))) (below_size (pxb HB))); replace HO_9 := Aside0.mk (Kd.R_elder' (pxr HO_9) (Kd.R_base ho0) hb); replace HO_12 := Aside0.mk (Kd.R_elder' (pxr HO_12) (Kd.R_base ho0) hb); replace HO_15 := Aside0.mk (Kd.R_elder' (pxr HO_15) (Kd.R_base ho0) hb); replace HO_18 := Aside0.mk (Kd.R_elder' (pxr HO_18) (Kd.R_base ho0) hb); replace HB := pxs HB hb; (try clear hb); (try clear hb2); (try clear hk); (try clear hi); (try clear ho0); obtain ⟨Ao33, co33, eo33⟩ := Kd.R_slice HO537.out; subst eo33) | (go_at_call 22; (with_reducible refine (edit_Apply.calls kj16 a2 _ _ t534 t538 t539 _ ?side1 ?side2 A28.out).mono ?_); (case side1 => repeat (first | exact (Kd.R_reads' HO537.out).2.2 | (with_reducible refine Kd.C_alloc ?_ _) | (with_reducible refine Kd.C_drewN ?_ _) | (with_reducible refine Kd.C_drew ?_))); (case side2 => exact (Kd.R_reads' HO537.out).2.1); rintro e w34 ⟨rfl, hb⟩; replace HO_9 := Aside0.mk (Kd.R_below (pxr HO_9) hb); replace HO_12 := Aside0.mk (Kd.R_below (pxr HO_12) hb); replace HO_15 := Aside0.mk (Kd.R_below (pxr HO_15) hb); replace HO_18 := Aside0.mk (Kd.R_below (pxr HO_18) hb); replace HO537 := Aside0.mk (Kd.R_below (pxr HO537) hb); replace HB := pxs HB hb; (try clear hb); (try clear hb2); (try clear hk); (try clear hi))))
          (try simp only [Act.put, List.setIfInBounds_toArray, List.set_cons_zero, List.set_cons_succ])
          go_cut [143] (fun v143 wc => ∃ (kq : Nat) (x143_28 : Bool), v143 = .bool x143_28 ∧ Aside0 (caulkertop_WholeDiffs.j3 kq a0 a2 t523 x143_28 = some r) ∧ Aside0 (kq ≤ kj16) ∧ Aside0 (Kd.R k41 41 wc w.heap.size (fun _ => True) v526 t523) ∧ Aside0 (Below w.heap.size w wc))
          case first =>
           have H := HC29.out
           clear HC29
           by_cases c35 : (wrap64 ((wrap64 (t533 + t535)) + t539)) = 0
           ·rw [if_pos c35] at H
            have c35b0 : ((wrap64 ((wrap64 (t533 + t535)) + t539)) == 0) = true := beq_iff_eq.mpr c35
            have c35b1 : ((wrap64 ((wrap64 (t533 + t535)) + t539)) != 0) = false := bne_eq_false_iff_eq.mpr c35
            clear c35
            (first | rw [c35b0] | (simp only [i64_w, i32_w]; rw [c35b0]) | skip)
            by_cases c36 : t532.toList = a2.toList
            ·rw [if_pos c36] at H
             have c36b0 : (t532.toList == a2.toList) = true := beq_iff_eq.mpr c36
             have c36b1 : (t532.toList != a2.toList) = false := bne_eq_false_iff_eq.mpr c36
             clear c36
             by_cases c37 : t538.toList = a0.toList
             ·rw [if_pos c37] at H
              have c37b0 : (t538.toList == a0.toList) = true := beq_iff_eq.mpr c37
              have c37b1 : (t538.toList != a0.toList) = false := bne_eq_false_iff_eq.mpr c37
              clear c37
              replace H := Option.bind_eq_some_iff.mp H
              obtain ⟨t540, A380, H⟩ := H
              replace H : ((edit_Cost.f kj16 t523).bind fun t541 => (if t540 < t541 then (caulkertop_WholeDiffs.j3 kj16 a0 a2 t523 true) else ((edit_Cost.f kj16 t528).bind fun t542 => ((edit_Cost.f kj16 t513).bind fun t543 => ((edit_Cost.f kj16 t518).bind fun t544 => (caulkertop_WholeDiffs.j3 kj16 a0 a2 t523 (decide (t542 > (wrap64 (t543 + t544)))))))))) = some r := H
              have A38 := Aside0.mk A380
              clear A380
              replace H := Option.bind_eq_some_iff.mp H
              obtain ⟨t541, A390, H⟩ := H
              replace H : (if t540 < t541 then (caulkertop_WholeDiffs.j3 kj16 a0 a2 t523 true) else ((edit_Cost.f kj16 t528).bind fun t542 => ((edit_Cost.f kj16 t513).bind fun t543 => ((edit_Cost.f kj16 t518).bind fun t544 => (caulkertop_WholeDiffs.j3 kj16 a0 a2 t523 (decide (t542 > (wrap64 (t543 + t544))))))))) = some r := H
              have A39 := Aside0.mk A390
              clear A390
              by_cases c40 : t540 < t541
              ·rw [if_pos c40] at H
               have c40b0 : decide (t540 < t541) = true := decide_eq_true c40
               clear c40
               have H' := Aside0.mk H
               clear H
               go_wp2_with (first | (go_at_call 16; (with_reducible refine (edit_Cost.calls kj16 _ _ t528 t540 _ ?side1 ?side2 A38.out).mono ?_); (case side1 => repeat (first | exact (Kd.R_reads' HO_18.out).2.2 | (with_reducible refine Kd.C_alloc ?_ _) | (with_reducible refine Kd.C_drewN ?_ _) | (with_reducible refine Kd.C_drew ?_))); (case side2 => exact (Kd.R_reads' HO_18.out).2.1); rintro e w41 ⟨rfl, hb⟩; replace HO_9 := Aside0.mk (Kd.R_below (pxr HO_9) hb); replace HO_12 := Aside0.mk (Kd.R_below (pxr HO_12) hb); replace HO_15 := Aside0.mk (Kd.R_below (pxr HO_15) hb); replace HO_18 := Aside0.mk (Kd.R_below (pxr HO_18) hb); replace HO537 := Aside0.mk (Kd.R_below (pxr HO537) hb); replace HB := pxs HB hb; (try clear hb); (try clear hb2); (try clear hk); (try clear hi); obtain ⟨Ao42, co42, eo42⟩ := Kd.R_slice HO_15.out; subst eo42) | (go_at_call 16; (with_reducible refine (edit_Cost.calls kj16 _ _ t523 t541 _ ?side1 ?side2 A39.out).mono ?_); (case side1 => repeat (first | exact (Kd.R_reads' HO_15.out).2.2 | (with_reducible refine Kd.C_alloc ?_ _) | (with_reducible refine Kd.C_drewN ?_ _) | (with_reducible refine Kd.C_drew ?_))); (case side2 => exact (Kd.R_reads' HO_15.out).2.1); rintro e w43 ⟨rfl, hb⟩; replace HO_9 := Aside0.mk (Kd.R_below (pxr HO_9) hb); replace HO_12 := Aside0.mk (Kd.R_below (pxr HO_12) hb); replace HO_15 := Aside0.mk (Kd.R_below (pxr HO_15) hb); replace HO_18 := Aside0.mk (Kd.R_below (pxr HO_18) hb); replace HO537 := Aside0.mk (Kd.R_below (pxr HO537) hb); replace HB := pxs HB hb; (try clear hb); (try clear hb2); (try clear hk); (try clear hi)))
               repeat (go_quiet (fail); try go_wp2_with (first | (go_at_call 16; (with_reducible refine (edit_Cost.calls kj16 _ _ t528 t540 _ ?side1 ?side2 A38.out).mono ?_); (case side1 => repeat (first | exact (Kd.R_reads' HO_18.out).2.2 | (with_reducible refine Kd.C_alloc ?_ _) | (with_reducible refine Kd.C_drewN ?_ _) | (with_reducible refine Kd.C_drew ?_))); (case side2 => exact (Kd.R_reads' HO_18.out).2.1); rintro e w41 ⟨rfl, hb⟩; replace HO_9 := Aside0.mk (Kd.R_below (pxr HO_9) hb); replace HO_12 := Aside0.mk (Kd.R_below (pxr HO_12) hb); replace HO_15 := Aside0.mk (Kd.R_below (pxr HO_15) hb); replace HO_18 := Aside0.mk (Kd.R_below (pxr HO_18) hb); replace HO537 := Aside0.mk (Kd.R_below (pxr HO537) hb); replace HB := pxs HB hb; (try clear hb); (try clear hb2); (try clear hk); (try clear hi); obtain ⟨Ao42, co42, eo42⟩ := Kd.R_slice HO_15.out; subst eo42) | (go_at_call 16; (with_reducible refine (edit_Cost.calls kj16 _ _ t523 t541 _ ?side1 ?side2 A39.out).mono ?_); (case side1 => repeat (first | exact (Kd.R_reads' HO_15.out).2.2 | (with_reducible refine Kd.C_alloc ?_ _) | (with_reducible refine Kd.C_drewN ?_ _) | (with_reducible refine Kd.C_drew ?_))); (case side2 => exact (Kd.R_reads' HO_15.out).2.1); rintro e w43 ⟨rfl, hb⟩; replace HO_9 := Aside0.mk (Kd.R_below (pxr HO_9) hb); replace HO_12 := Aside0.mk (Kd.R_below (pxr HO_12) hb); replace HO_15 := Aside0.mk (Kd.R_below (pxr HO_15) hb); replace HO_18 := Aside0.mk (Kd.R_below (pxr HO_18) hb); replace HO537 := Aside0.mk (Kd.R_below (pxr HO537) hb); replace HB := pxs HB hb; (try clear hb); (try clear hb2); (try clear hk); (try clear hi))))
               go_meet
               case rel => exact ⟨_, (true), (by first | rfl | (simp; done) | (simp [*]; done)), H', ⟨by have := HJ4.out; have := HJ8.out; have := HJ16.out; first | omega | exact Nat.le_refl _⟩, ⟨by (with_reducible repeat (first | apply Kd.R_alloc | apply Kd.R_drewN | apply Kd.R_drew)); exact Kd.R_mono HO_15.out (fun _ hk => trivial)⟩, ⟨pxb HB⟩⟩
              ·rw [if_neg c40] at H
               have c40b0 : decide (t540 < t541) = false := decide_eq_false c40
               clear c40
               replace H := Option.bind_eq_some_iff.mp H
               obtain ⟨t542, A440, H⟩ := H
               replace H : ((edit_Cost.f kj16 t513).bind fun t543 => ((edit_Cost.f kj16 t518).bind fun t544 => (caulkertop_WholeDiffs.j3 kj16 a0 a2 t523 (decide (t542 > (wrap64 (t543 + t544))))))) = some r := H
               have A44 := Aside0.mk A440
               clear A440
               replace H := Option.bind_eq_some_iff.mp H
               obtain ⟨t543, A450, H⟩ := H
               replace H : ((edit_Cost.f kj16 t518).bind fun t544 => (caulkertop_WholeDiffs.j3 kj16 a0 a2 t523 (decide (t542 > (wrap64 (t543 + t544)))))) = some r := H
               have A45 := Aside0.mk A450
               clear A450
               replace H := Option.bind_eq_some_iff.mp H
               obtain ⟨t544, A460, H⟩ := H
               replace H : (caulkertop_WholeDiffs.j3 kj16 a0 a2 t523 (decide (t542 > (wrap64 (t543 + t544))))) = some r := H
               have A46 := Aside0.mk A460
               clear A460
               have H' := Aside0.mk H
               clear H
               go_wp2_with (first | (go_at_call 16; (with_reducible refine (edit_Cost.calls kj16 _ _ t528 t540 _ ?side1 ?side2 A38.out).mono ?_); (case side1 => repeat (first | exact (Kd.R_reads' HO_18.out).2.2 | (with_reducible refine Kd.C_alloc ?_ _) | (with_reducible refine Kd.C_drewN ?_ _) | (with_reducible refine Kd.C_drew ?_))); (case side2 => exact (Kd.R_reads' HO_18.out).2.1); rintro e w47 ⟨rfl, hb⟩; replace HO_9 := Aside0.mk (Kd.R_below (pxr HO_9) hb); replace HO_12 := Aside0.mk (Kd.R_below (pxr HO_12) hb); replace HO_15 := Aside0.mk (Kd.R_below (pxr HO_15) hb); replace HO_18 := Aside0.mk (Kd.R_below (pxr HO_18) hb); replace HO537 := Aside0.mk (Kd.R_below (pxr HO537) hb); replace HB := pxs HB hb; (try clear hb); (try clear hb2); (try clear hk); (try clear hi); obtain ⟨Ao48, co48, eo48⟩ := Kd.R_slice HO_15.out; subst eo48) | (go_at_call 16; (with_reducible refine (edit_Cost.calls kj16 _ _ t523 t541 _ ?side1 ?side2 A39.out).mono ?_); (case side1 => repeat (first | exact (Kd.R_reads' HO_15.out).2.2 | (with_reducible refine Kd.C_alloc ?_ _) | (with_reducible refine Kd.C_drewN ?_ _) | (with_reducible refine Kd.C_drew ?_))); (case side2 => exact (Kd.R_reads' HO_15.out).2.1); rintro e w49 ⟨rfl, hb⟩; replace HO_9 := Aside0.mk (Kd.R_below (pxr HO_9) hb); replace HO_12 := Aside0.mk (Kd.R_below (pxr HO_12) hb); replace HO_15 := Aside0.mk (Kd.R_below (pxr HO_15) hb); replace HO_18 := Aside0.mk (Kd.R_below (pxr HO_18) hb); replace HO537 := Aside0.mk (Kd.R_below (pxr HO537) hb); replace HB := pxs HB hb; (try clear hb); (try clear hb2); (try clear hk); (try clear hi)) | (go_at_call 16; (with_reducible refine (edit_Cost.calls kj16 _ _ t528 t542 _ ?side1 ?side2 A44.out).mono ?_); (case side1 => repeat (first | exact (Kd.R_reads' HO_18.out).2.2 | (with_reducible refine Kd.C_alloc ?_ _) | (with_reducible refine Kd.C_drewN ?_ _) | (with_reducible refine Kd.C_drew ?_))); (case side2 => exact (Kd.R_reads' HO_18.out).2.1); rintro e w50 ⟨rfl, hb⟩; replace HO_9 := Aside0.mk (Kd.R_below (pxr HO_9) hb); replace HO_12 := Aside0.mk (Kd.R_below (pxr HO_12) hb); replace HO_15 := Aside0.mk (Kd.R_below (pxr HO_15) hb); replace HO_18 := Aside0.mk (Kd.R_below (pxr HO_18) hb); replace HO537 := Aside0.mk (Kd.R_below (pxr HO537) hb); replace HB := pxs HB hb; (try clear hb); (try clear hb2); (try clear hk); (try clear hi)) | (go_at_call 16; (with_reducible refine (edit_Cost.calls kj16 _ _ t513 t543 _ ?side1 ?side2 A45.out).mono ?_); (case side1 => repeat (first | exact (Kd.R_reads' HO_9.out).2.2 | (with_reducible refine Kd.C_alloc ?_ _) | (with_reducible refine Kd.C_drewN ?_ _) | (with_reducible refine Kd.C_drew ?_))); (case side2 => exact (Kd.R_reads' HO_9.out).2.1); rintro e w51 ⟨rfl, hb⟩; replace HO_9 := Aside0.mk (Kd.R_below (pxr HO_9) hb); replace HO_12 := Aside0.mk (Kd.R_below (pxr HO_12) hb); replace HO_15 := Aside0.mk (Kd.R_below (pxr HO_15) hb); replace HO_18 := Aside0.mk (Kd.R_below (pxr HO_18) hb); replace HO537 := Aside0.mk (Kd.R_below (pxr HO537) hb); replace HB := pxs HB hb; (try clear hb); (try clear hb2); (try clear hk); (try clear hi)) | (go_at_call 16; (with_reducible refine (edit_Cost.calls kj16 _ _ t518 t544 _ ?side1 ?side2 A46.out).mono ?_); (case side1 => repeat (first | exact (Kd.R_reads' HO_12.out).2.2 | (with_reducible refine Kd.C_alloc ?_ _) | (with_reducible refine Kd.C_drewN ?_ _) | (with_reducible refine Kd.C_drew ?_))); (case side2 => exact (Kd.R_reads' HO_12.out).2.1); rintro e w52 ⟨rfl, hb⟩; replace HO_9 := Aside0.mk (Kd.R_below (pxr HO_9) hb); replace HO_12 := Aside0.mk (Kd.R_below (pxr HO_12) hb); replace HO_15 := Aside0.mk (Kd.R_below (pxr HO_15) hb); replace HO_18 := Aside0.mk (Kd.R_below (pxr HO_18) hb); replace HO537 := Aside0.mk (Kd.R_below (pxr HO537) hb); replace HB := pxs HB hb; (try clear hb); (try clear hb2); (try clear hk); (try clear hi)))
               repeat (go_quiet (fail); try go_wp2_with (first | (go_at_call 16; (with_reducible refine (edit_Cost.calls kj16 _ _ t528 t540 _ ?side1 ?side2 A38.out).mono ?_); (case side1 => repeat (first | exact (Kd.R_reads' HO_18.out).2.2 | (with_reducible refine Kd.C_alloc ?_ _) | (with_reducible refine Kd.C_drewN ?_ _) | (with_reducible refine Kd.C_drew ?_))); (case side2 => exact (Kd.R_reads' HO_18.out).2.1); rintro e w47 ⟨rfl, hb⟩; replace HO_9 := Aside0.mk (Kd.R_below (pxr HO_9) hb); replace HO_12 := Aside0.mk (Kd.R_below (pxr HO_12) hb); replace HO_15 := Aside0.mk (Kd.R_below (pxr HO_15) hb); replace HO_18 := Aside0.mk (Kd.R_below (pxr HO_18) hb); replace HO537 := Aside0.mk (Kd.R_below (pxr HO537) hb); replace HB := pxs HB hb; (try clear hb); (try clear hb2); (try clear hk); (try clear hi); obtain ⟨Ao48, co48, eo48⟩ := Kd.R_slice HO_15.out; subst eo48) | (go_at_call 16; (with_reducible refine (edit_Cost.calls kj16 _ _ t523 t541 _ ?side1 ?side2 A39.out).mono ?_); (case side1 => repeat (first | exact (Kd.R_reads' HO_15.out).2.2 | (with_reducible refine Kd.C_alloc ?_ _) | (with_reducible refine Kd.C_drewN ?_ _) | (with_reducible refine Kd.C_drew ?_))); (case side2 => exact (Kd.R_reads' HO_15.out).2.1); rintro e w49 ⟨rfl, hb⟩; replace HO_9 := Aside0.mk (Kd.R_below (pxr HO_9) hb); replace HO_12 := Aside0.mk (Kd.R_below (pxr HO_12) hb); replace HO_15 := Aside0.mk (Kd.R_below (pxr HO_15) hb); replace HO_18 := Aside0.mk (Kd.R_below (pxr HO_18) hb); replace HO537 := Aside0.mk (Kd.R_below (pxr HO537) hb); replace HB := pxs HB hb; (try clear hb); (try clear hb2); (try clear hk); (try clear hi)) | (go_at_call 16; (with_reducible refine (edit_Cost.calls kj16 _ _ t528 t542 _ ?side1 ?side2 A44.out).mono ?_); (case side1 => repeat (first | exact (Kd.R_reads' HO_18.out).2.2 | (with_reducible refine Kd.C_alloc ?_ _) | (with_reducible refine Kd.C_drewN ?_ _) | (with_reducible refine Kd.C_drew ?_))); (case side2 => exact (Kd.R_reads' HO_18.out).2.1); rintro e w50 ⟨rfl, hb⟩; replace HO_9 := Aside0.mk (Kd.R_below (pxr HO_9) hb); replace HO_12 := Aside0.mk (Kd.R_below (pxr HO_12) hb); replace HO_15 := Aside0.mk (Kd.R_below (pxr HO_15) hb); replace HO_18 := Aside0.mk (Kd.R_below (pxr HO_18) hb); replace HO537 := Aside0.mk (Kd.R_below (pxr HO537) hb); replace HB := pxs HB hb; (try clear hb); (try clear hb2); (try clear hk); (try clear hi)) | (go_at_call 16; (with_reducible refine (edit_Cost.calls kj16 _ _ t513 t543 _ ?side1 ?side2 A45.out).mono ?_); (case side1 => repeat (first | exact (Kd.R_reads' HO_9.out).2.2 | (with_reducible refine Kd.C_alloc ?_ _) | (with_reducible refine Kd.C_drewN ?_ _) | (with_reducible refine Kd.C_drew ?_))); (case side2 => exact (Kd.R_reads' HO_9.out).2.1); rintro e w51 ⟨rfl, hb⟩; replace HO_9 := Aside0.mk (Kd.R_below (pxr HO_9) hb); replace HO_12 := Aside0.mk (Kd.R_below (pxr HO_12) hb); replace HO_15 := Aside0.mk (Kd.R_below (pxr HO_15) hb); replace HO_18 := Aside0.mk (Kd.R_below (pxr HO_18) hb); replace HO537 := Aside0.mk (Kd.R_below (pxr HO537) hb); replace HB := pxs HB hb; (try clear hb); (try clear hb2); (try clear hk); (try clear hi)) | (go_at_call 16; (with_reducible refine (edit_Cost.calls kj16 _ _ t518 t544 _ ?side1 ?side2 A46.out).mono ?_); (case side1 => repeat (first | exact (Kd.R_reads' HO_12.out).2.2 | (with_reducible refine Kd.C_alloc ?_ _) | (with_reducible refine Kd.C_drewN ?_ _) | (with_reducible refine Kd.C_drew ?_))); (case side2 => exact (Kd.R_reads' HO_12.out).2.1); rintro e w52 ⟨rfl, hb⟩; replace HO_9 := Aside0.mk (Kd.R_below (pxr HO_9) hb); replace HO_12 := Aside0.mk (Kd.R_below (pxr HO_12) hb); replace HO_15 := Aside0.mk (Kd.R_below (pxr HO_15) hb); replace HO_18 := Aside0.mk (Kd.R_below (pxr HO_18) hb); replace HO537 := Aside0.mk (Kd.R_below (pxr HO537) hb); replace HB := pxs HB hb; (try clear hb); (try clear hb2); (try clear hk); (try clear hi))))
               go_meet
               case rel => exact ⟨_, (decide (t542 > (wrap64 (t543 + t544)))), (by first | rfl | (simp; done) | (simp [*]; done)), H', ⟨by have := HJ4.out; have := HJ8.out; have := HJ16.out; first | omega | exact Nat.le_refl _⟩, ⟨by (with_reducible repeat (first | apply Kd.R_alloc | apply Kd.R_drewN | apply Kd.R_drew)); exact Kd.R_mono HO_15.out (fun _ hk => trivial)⟩, ⟨pxb HB⟩⟩
             ·rw [if_neg c37] at H
              have c37b0 : (t538.toList == a0.toList) = false := beq_eq_false_iff_ne.mpr c37
              have c37b1 : (t538.toList != a0.toList) = true := bne_iff_ne.mpr c37
              have H' := Aside0.mk H
              clear H
              go_wp2
              repeat (go_quiet (fail); try go_wp2)
              go_meet
              case rel => exact ⟨_, (true), (by first | rfl | (simp; done) | (simp [*]; done)), H', ⟨by have := HJ4.out; have := HJ8.out; have := HJ16.out; first | omega | exact Nat.le_refl _⟩, ⟨by (with_reducible repeat (first | apply Kd.R_alloc | apply Kd.R_drewN | apply Kd.R_drew)); exact Kd.R_mono HO_15.out (fun _ hk => trivial)⟩, ⟨pxb HB⟩⟩
            ·rw [if_neg c36] at H
             have c36b0 : (t532.toList == a2.toList) = false := beq_eq_false_iff_ne.mpr c36
             have c36b1 : (t532.toList != a2.toList) = true := bne_iff_ne.mpr c36
             have H' := Aside0.mk H
             clear H
             go_wp2
             repeat (go_quiet (fail); try go_wp2)
             go_meet
             case rel => exact ⟨_, (true), (by first | rfl | (simp; done) | (simp [*]; done)), H', ⟨by have := HJ4.out; have := HJ8.out; have := HJ16.out; first | omega | exact Nat.le_refl _⟩, ⟨by (with_reducible repeat (first | apply Kd.R_alloc | apply Kd.R_drewN | apply Kd.R_drew)); exact Kd.R_mono HO_15.out (fun _ hk => trivial)⟩, ⟨pxb HB⟩⟩
           ·rw [if_neg c35] at H
            have c35b0 : ((wrap64 ((wrap64 (t533 + t535)) + t539)) == 0) = false := beq_eq_false_iff_ne.mpr c35
            have c35b1 : ((wrap64 ((wrap64 (t533 + t535)) + t539)) != 0) = true := bne_iff_ne.mpr c35
            (first | rw [c35b0] | (simp only [i64_w, i32_w]; rw [c35b0]) | skip)
            have H' := Aside0.mk H
            clear H
            go_wp2
            repeat (go_quiet (fail); try go_wp2)
            go_meet
            case rel => exact ⟨_, (true), (by first | rfl | (simp; done) | (simp [*]; done)), H', ⟨by have := HJ4.out; have := HJ8.out; have := HJ16.out; first | omega | exact Nat.le_refl _⟩, ⟨by (with_reducible repeat (first | apply Kd.R_alloc | apply Kd.R_drewN | apply Kd.R_drew)); exact Kd.R_mono HO_15.out (fun _ hk => trivial)⟩, ⟨pxb HB⟩⟩
          case rest => as_aux_lemma =>
           clear HC29
           (try clear c1); (try clear c2); (try clear p2); (try clear c3); (try clear c4); (try clear p6); (try clear c7); (try clear c7b0); (try clear c7b1); (try clear c8); (try clear c10); (try clear c10b0); (try clear c10b1); (try clear c11); (try clear c11b0); (try clear c11b1); (try clear c12); (try clear c24); (try clear c24b0); (try clear c24b1); (try clear c25); (try clear c35); (try clear c35b0); (try clear c35b1); (try clear c36); (try clear c36b0); (try clear c36b1); (try clear c37); (try clear c37b0); (try clear c37b1); (try clear c40); (try clear c40b0)
           obtain ⟨kq, x143_28, rfl, HA, HJ28, HO_15, HB⟩ := hcut
           cases kq with
           | zero => exact absurd HA.out (by simp [caulkertop_WholeDiffs.j3])
           | succ kj28 =>
            have H := HA.out
            clear HA
            simp only [caulkertop_WholeDiffs.j3] at H
            by_cases c53 : x143_28 = true
            ·subst c53
             have H1 : (none) = some r := by rw [if_pos rfl] at H; exact H
             clear H
             have H := H1
             clear H1
             exact absurd H (by simp)
            ·replace c53 := Bool.eq_false_iff.mpr c53
             subst c53
             have H1 : ((diff_Kept.f kj28 a0 t523).bind fun bt545 => (if bt545.2 = 0 then (caulkertop_WholeDiffs.l0 kj28 a0 a2 t523 0 bt545.1 (bt545.1.length : Int) 0) else (none))) = some r := by rw [if_neg (show ¬ (false = true) by decide)] at H; exact H
             clear H
             have H := H1
             clear H1
             replace H := Option.bind_eq_some_iff.mp H
             obtain ⟨⟨t545, t546⟩, A540, H⟩ := H
             replace H : (if t546 = 0 then (caulkertop_WholeDiffs.l0 kj28 a0 a2 t523 0 t545 (t545.length : Int) 0) else (none)) = some r := H
             have A54 := Aside0.mk A540
             clear A540
             by_cases c55 : t546 = 0
             ·rw [if_pos c55] at H
              have c55b0 : (t546 == 0) = true := beq_iff_eq.mpr c55
              have c55b1 : (t546 != 0) = false := bne_eq_false_iff_eq.mpr c55
              clear c55
              have H' := Aside0.mk H
              clear H
              obtain ⟨Ao56, co56, eo56⟩ := Kd.R_slice HO_15.out
              subst eo56
              go_wp2_with (first | (go_at_call 17; (with_reducible refine (diff_Kept.calls kj28 a0 _ _ t523 t545 t546 _ ?side1 ?side2 A54.out).mono ?_); (case side1 => repeat (first | exact (Kd.R_reads' HO_15.out).2.2 | (with_reducible refine Kd.C_alloc ?_ _) | (with_reducible refine Kd.C_drewN ?_ _) | (with_reducible refine Kd.C_drew ?_))); (case side2 => exact (Kd.R_reads' HO_15.out).2.1); rintro e w57 ⟨v547, rfl, ho0, hb⟩; have HO548 := Aside0.mk (Kd.R_lower ho0 (below_size (pxb HB))); replace HO_15 := Aside0.mk (Kd.R_below (pxr HO_15) hb); replace HB := pxs HB hb; (try clear hb); (try clear hb2); (try clear hk); (try clear hi); (try clear ho0); obtain ⟨Ao58, co58, eo58⟩ := Kd.R_slice HO548.out; subst eo58))
              repeat (go_quiet (fail); try go_wp2_with (first | (go_at_call 17; (with_reducible refine (diff_Kept.calls kj28 a0 _ _ t523 t545 t546 _ ?side1 ?side2 A54.out).mono ?_); (case side1 => repeat (first | exact (Kd.R_reads' HO_15.out).2.2 | (with_reducible refine Kd.C_alloc ?_ _) | (with_reducible refine Kd.C_drewN ?_ _) | (with_reducible refine Kd.C_drew ?_))); (case side2 => exact (Kd.R_reads' HO_15.out).2.1); rintro e w57 ⟨v547, rfl, ho0, hb⟩; have HO548 := Aside0.mk (Kd.R_lower ho0 (below_size (pxb HB))); replace HO_15 := Aside0.mk (Kd.R_below (pxr HO_15) hb); replace HB := pxs HB hb; (try clear hb); (try clear hb2); (try clear hk); (try clear hi); (try clear ho0); obtain ⟨Ao58, co58, eo58⟩ := Kd.R_slice HO548.out; subst eo58)))
              go_loopg [24, 154] kj28 (fun kq v24 v154 w' => ∃ (x24_5 : Int) (x154_5 : Int), v24 = .int .i64 x24_5 ∧ v154 = .int .i64 x154_5 ∧ Aside0 (caulkertop_WholeDiffs.l0 kq a0 a2 t523 x24_5 t545 (t545.length : Int) x154_5 = some r) ∧ Aside0 (kq ≤ kj28) ∧ Aside0 (Kd.R k41 41 w' w.heap.size (fun _ => True) (.slice Ao56 t523.length co56) t523) ∧ Aside0 (Kd.R k39 39 w' w.heap.size (fun _ => True) (.slice Ao58 t545.length co58) t545) ∧ Aside0 (Below w.heap.size w w'))
              case atStart => exact ⟨(0), (0), (by first | rfl | (simp; done) | (simp [*]; done)), (by first | rfl | (simp; done) | (simp [*]; done)), H', ⟨Nat.le_refl _⟩, ⟨pxr HO_15⟩, ⟨pxr HO548⟩, ⟨pxb HB⟩⟩
              case round =>
               clear H'
               (try clear c1); (try clear c2); (try clear p2); (try clear c3); (try clear c4); (try clear c5); (try clear p6); (try clear c7); (try clear c7b0); (try clear c7b1); (try clear c8); (try clear c10); (try clear c10b0); (try clear c10b1); (try clear c11); (try clear c11b0); (try clear c11b1); (try clear c12); (try clear c24); (try clear c24b0); (try clear c24b1); (try clear c25); (try clear c35); (try clear c35b0); (try clear c35b1); (try clear c36); (try clear c36b0); (try clear c36b1); (try clear c37); (try clear c37b0); (try clear c37b1); (try clear c40); (try clear c40b0); (try clear c53); (try clear c55); (try clear c55b0); (try clear c55b1)
               obtain ⟨x24_5, x154_5, rfl, rfl, HA, HK5, HO_15, HO_152, HB⟩ := hrel
               cases gk with
               | zero => exact absurd HA.out (by simp [caulkertop_WholeDiffs.l0])
               | succ k5 =>
                have H := HA.out
                clear HA
                simp only [caulkertop_WholeDiffs.l0] at H
                by_cases c59 : x154_5 < (t545.length : Int)
                ·rw [if_pos c59] at H
                 have c59b0 : decide (x154_5 < (t545.length : Int)) = true := decide_eq_true c59
                 clear c59
                 by_cases c60 : 0 ≤ x154_5
                 ·rw [if_pos c60] at H
                  have c60b0 : decide (0 ≤ x154_5) = true := decide_eq_true c60
                  clear c60
                  by_cases c61 : x154_5 < (t545.length : Int)
                  ·rw [if_pos c61] at H
                   have c61b0 : decide (x154_5 < (t545.length : Int)) = true := decide_eq_true c61
                   clear c61
                   have H' := Aside0.mk H
                   clear H
                   have p550 : 0 ≤ (x154_5 : Int) := pxd
                   have q550 : x154_5 < (t545.length : Int) := pxd
                   obtain ⟨ad550, e550, hx550_0, hx550_1⟩ := at_T39 (Kd.R_reads' HO_152.out).2.2 x154_5 p550 q550
                   cases e550
                   replace p550 := eq_true p550
                   replace q550 := eq_true q550
                   go_wp2_with (first | ((with_reducible refine gate_dst (N := 26) rfl ?_); refine box_event ?hg (N := 26) ?hd (cs := #[.int .i64 0, .int .i64 0]) (t := 39) ?hr ?_; (case hd => rfl); (case hg => rfl); (case hr => first | (go_simp; done) | (go_simp; rfl)); intro gb551 hg w62 hbox hb; have BK551 := Aside0.mk (hbox); have GW551 := pxw HB hg; have GE551 := pxw HB hg; replace HO_15 := Aside0.mk (Kd.R_below (pxr HO_15) hb); replace HO_152 := Aside0.mk (Kd.R_below (Kd.R_elderB (pxr HO_152) gb551 (Nat.le_of_eq hg.symm)) hb); replace HB := pxs HB hb; clear hb hbox hg; obtain ⟨hcz63_0, hcz63_1, hfz63_0, hfz63_1⟩ := pxf2 BK551))
                   repeat (go_quiet (fail); try go_wp2_with (first | ((with_reducible refine gate_dst (N := 26) rfl ?_); refine box_event ?hg (N := 26) ?hd (cs := #[.int .i64 0, .int .i64 0]) (t := 39) ?hr ?_; (case hd => rfl); (case hg => rfl); (case hr => first | (go_simp; done) | (go_simp; rfl)); intro gb551 hg w62 hbox hb; have BK551 := Aside0.mk (hbox); have GW551 := pxw HB hg; have GE551 := pxw HB hg; replace HO_15 := Aside0.mk (Kd.R_below (pxr HO_15) hb); replace HO_152 := Aside0.mk (Kd.R_below (Kd.R_elderB (pxr HO_152) gb551 (Nat.le_of_eq hg.symm)) hb); replace HB := pxs HB hb; clear hb hbox hg; obtain ⟨hcz63_0, hcz63_1, hfz63_0, hfz63_1⟩ := pxf2 BK551)))
                   go_loopg [24, 27] k5 (fun kq v24 v27 w' => ∃ (x24_6 : Int) (x27_6 : Int), v24 = .int .i64 x24_6 ∧ v27 = .int .i64 x27_6 ∧ Aside0 (caulkertop_WholeDiffs.l1 kq a0 a2 t523 x24_6 x27_6 t545 (t545.length : Int) x154_5 ((rd_T39 t545 x154_5).f0) ((rd_T39 t545 x154_5).f1) = some r) ∧ Aside0 (kq ≤ k5) ∧ Aside0 (Kd.R k41 41 w' w.heap.size (fun _ => True) (.slice Ao56 t523.length co56) t523) ∧ Aside0 (Kd.R k39 39 w' w.heap.size (fun k_ => k_ ≠ gb551) (.slice (some ad550) t545.length co58) t545) ∧ Aside0 (w'.heap[gb551]? = some (.cells #[.int .i64 ((rd_T39 t545 x154_5).f0), .int .i64 ((rd_T39 t545 x154_5).f1)] 39 (0, 0))) ∧ Aside0 (Below w.heap.size w w'))
                   case atStart => exact ⟨(x24_5), ((rd_T39 t545 x154_5).f0), (by first | rfl | (simp; done) | (simp [*]; done)), (by first | rfl | (simp; done) | (simp [*]; done)), H', ⟨Nat.le_refl _⟩, ⟨by (with_reducible repeat (first | apply Kd.R_alloc | apply Kd.R_drewN | apply Kd.R_drew)); exact Kd.R_mono (Kd.R_far (p := ⟨gb551, 1, none⟩) (Kd.R_far (p := ⟨gb551, 0, none⟩) (Kd.R_types HO_15.out BK551.out (by decide)) (fun _ hk => hk.2) (.int .i64 ((rd_T39 t545 x154_5).f0))) (fun _ hk => hk.2) (.int .i64 ((rd_T39 t545 x154_5).f1))) (fun _ hk => trivial)⟩, ⟨by (with_reducible repeat (first | apply Kd.R_alloc | apply Kd.R_drewN | apply Kd.R_drew)); exact Kd.R_mono (Kd.R_far (p := ⟨gb551, 1, none⟩) (Kd.R_far (p := ⟨gb551, 0, none⟩) (Kd.R_mono HO_152.out (fun k_ hk => (⟨hk, hk.2⟩ : _ ∧ k_ ≠ gb551))) (fun _ hk => hk.2) (.int .i64 ((rd_T39 t545 x154_5).f0))) (fun _ hk => hk.2) (.int .i64 ((rd_T39 t545 x154_5).f1))) (fun _ hk => hk.1.2)⟩, ⟨pxp BK551⟩, ⟨pxb HB⟩⟩
                   case round =>
                    clear H'
                    (try clear c1); (try clear c2); (try clear p2); (try clear c3); (try clear c4); (try clear c5); (try clear p5); (try clear q5); (try clear hx5); (try clear c6); (try clear p6); (try clear c7); (try clear c7b0); (try clear c7b1); (try clear c8); (try clear c10); (try clear c10b0); (try clear c10b1); (try clear c11); (try clear c11b0); (try clear c11b1); (try clear c12); (try clear c24); (try clear c24b0); (try clear c24b1); (try clear c25); (try clear c35); (try clear c35b0); (try clear c35b1); (try clear c36); (try clear c36b0); (try clear c36b1); (try clear c37); (try clear c37b0); (try clear c37b1); (try clear c40); (try clear c40b0); (try clear c53); (try clear c55); (try clear c55b0); (try clear c55b1); (try clear p55); (try clear q55); (try clear hx55); (try clear c59); (try clear c59b0); (try clear c60); (try clear c60b0); (try clear c61); (try clear c61b0); (try clear hcz63_0 hcz63_1 hfz63_0 hfz63_1); (try clear hx550_0); (try clear hx550_1); (try clear p550); (try clear q550)
                    obtain ⟨x24_6, x27_6, rfl, rfl, HA, HK6, HO_15, HO_152, BK551, HB⟩ := hrel
                    cases gk with
                    | zero => exact absurd HA.out (by simp [caulkertop_WholeDiffs.l1])
                    | succ k6 =>
                     have H := HA.out
                     clear HA
                     simp only [caulkertop_WholeDiffs.l1] at H
                     by_cases c64 : x27_6 < ((rd_T39 t545 x154_5).f1)
                     ·rw [if_pos c64] at H
                      have c64b0 : decide (x27_6 < ((rd_T39 t545 x154_5).f1)) = true := decide_eq_true c64
                      clear c64
                      replace H := Option.bind_eq_some_iff.mp H
                      obtain ⟨⟨t552, t553⟩, A650, H⟩ := H
                      replace H : (if t553 = 0 then (if t552 ≥ (a2.size : Int) then (none) else (if 0 ≤ t552 then (if t552 < (a2.size : Int) then (if 0 ≤ x27_6 then (if x27_6 < (a0.size : Int) then (if (bt a2 t552) = (bt a0 x27_6) then (caulkertop_WholeDiffs.l1 k6 a0 a2 t523 (wrap64 (x24_6 + 1)) (wrap64 (x27_6 + 1)) t545 (t545.length : Int) x154_5 ((rd_T39 t545 x154_5).f0) ((rd_T39 t545 x154_5).f1)) else (none)) else (none)) else (none)) else (none)) else (none))) else (none)) = some r := H
                      have A65 := Aside0.mk A650
                      clear A650
                      by_cases c66 : t553 = 0
                      ·rw [if_pos c66] at H
                       have c66b0 : (t553 == 0) = true := beq_iff_eq.mpr c66
                       have c66b1 : (t553 != 0) = false := bne_eq_false_iff_eq.mpr c66
                       clear c66
                       by_cases c67 : t552 ≥ (a2.size : Int)
                       ·rw [if_pos c67] at H
                        exact absurd H (by simp)
                       ·rw [if_neg c67] at H
                        have c67b0 : decide ((a2.size : Int) ≤ t552) = false := decide_eq_false c67
                        clear c67
                        by_cases c68 : 0 ≤ t552
                        ·rw [if_pos c68] at H
                         have c68b0 : decide (0 ≤ t552) = true := decide_eq_true c68
                         clear c68
                         by_cases c69 : t552 < (a2.size : Int)
                         ·rw [if_pos c69] at H
                          have c69b0 : decide (t552 < (a2.size : Int)) = true := decide_eq_true c69
                          clear c69
                          by_cases c71 : 0 ≤ x27_6
                          ·rw [if_pos c71] at H
                           have c71b0 : decide (0 ≤ x27_6) = true := decide_eq_true c71
                           clear c71
                           by_cases c72 : x27_6 < (a0.size : Int)
                           ·rw [if_pos c72] at H
                            have c72b0 : decide (x27_6 < (a0.size : Int)) = true := decide_eq_true c72
                            clear c72
                            by_cases c74 : (bt a2 t552) = (bt a0 x27_6)
                            ·rw [if_pos c74] at H
                             have c74b0 : ((bt a2 t552) == (bt a0 x27_6)) = true := beq_iff_eq.mpr c74
                             have c74b1 : ((bt a2 t552) != (bt a0 x27_6)) = false := bne_eq_false_iff_eq.mpr c74
                             clear c74
                             have H' := Aside0.mk H
                             clear H
                             have hcz75_0 : wr.cell? ⟨gb551, 0, none⟩ = some (.int .i64 ((rd_T39 t545 x154_5).f0)) := (blk_cell BK551.out 0).trans rfl
                             have hcz75_1 : wr.cell? ⟨gb551, 1, none⟩ = some (.int .i64 ((rd_T39 t545 x154_5).f1)) := (blk_cell BK551.out 1).trans rfl
                             have hfz75_0 := blk_frozen BK551.out 0
                             have hfz75_1 := blk_frozen BK551.out 1
                             go_wp2_with (first | (go_at_call 24; (with_reducible refine (edit_Move.calls k6 a0 x27_6 true _ _ t523 t552 t553 _ ?side1 ?side2 A65.out).mono ?_); (case side1 => repeat (first | exact (Kd.R_reads' HO_15.out).2.2 | (with_reducible refine Kd.C_alloc ?_ _) | (with_reducible refine Kd.C_drewN ?_ _) | (with_reducible refine Kd.C_drew ?_))); (case side2 => exact (Kd.R_reads' HO_15.out).2.1); rintro e w76 ⟨rfl, hb⟩; replace HO_15 := Aside0.mk (Kd.R_below (pxr HO_15) hb); replace HO_152 := Aside0.mk (Kd.R_below (pxr HO_152) hb); replace BK551 := pxk BK551 hb; replace HB := pxs HB hb; (try clear hb); (try clear hb2); (try clear hk); (try clear hi); have p70 : 0 ≤ (t552 : Int) := pxd; have q70 : t552 < (a2.size : Int) := pxd; have hx70 := bt_at a2 t552; replace p70 := eq_true p70; replace q70 := eq_true q70; have p73 : 0 ≤ (x27_6 : Int) := pxd; have q73 : x27_6 < (a0.size : Int) := pxd; have hx73 := bt_at a0 x27_6; replace p73 := eq_true p73; replace q73 := eq_true q73))
                             repeat (go_quiet (fail); try go_wp2_with (first | (go_at_call 24; (with_reducible refine (edit_Move.calls k6 a0 x27_6 true _ _ t523 t552 t553 _ ?side1 ?side2 A65.out).mono ?_); (case side1 => repeat (first | exact (Kd.R_reads' HO_15.out).2.2 | (with_reducible refine Kd.C_alloc ?_ _) | (with_reducible refine Kd.C_drewN ?_ _) | (with_reducible refine Kd.C_drew ?_))); (case side2 => exact (Kd.R_reads' HO_15.out).2.1); rintro e w76 ⟨rfl, hb⟩; replace HO_15 := Aside0.mk (Kd.R_below (pxr HO_15) hb); replace HO_152 := Aside0.mk (Kd.R_below (pxr HO_152) hb); replace BK551 := pxk BK551 hb; replace HB := pxs HB hb; (try clear hb); (try clear hb2); (try clear hk); (try clear hi); have p70 : 0 ≤ (t552 : Int) := pxd; have q70 : t552 < (a2.size : Int) := pxd; have hx70 := bt_at a2 t552; replace p70 := eq_true p70; replace q70 := eq_true q70; have p73 : 0 ≤ (x27_6 : Int) := pxd; have q73 : x27_6 < (a0.size : Int) := pxd; have hx73 := bt_at a0 x27_6; replace p73 := eq_true p73; replace q73 := eq_true q73)))
                             go_roundg k6
                             case measure => have := HJ4.out; have := HJ8.out; have := HJ16.out; have := HJ28.out; have := HK5.out; have := HK6.out; omega
                             case rel => exact ⟨(wrap64 (x24_6 + 1)), (wrap64 (x27_6 + 1)), (by first | rfl | (simp; done) | (simp [*]; done)), (by first | rfl | (simp; done) | (simp [*]; done)), H', ⟨by have := HJ4.out; have := HJ8.out; have := HJ16.out; have := HJ28.out; have := HK5.out; have := HK6.out; omega⟩, ⟨pxr HO_15⟩, ⟨pxr HO_152⟩, ⟨pxq BK551⟩, ⟨pxb HB⟩⟩
                            ·rw [if_neg c74] at H
                             exact absurd H (by simp)
                           ·rw [if_neg c72] at H
                            exact absurd H (by simp)
                          ·rw [if_neg c71] at H
                           exact absurd H (by simp)
                         ·rw [if_neg c69] at H
                          exact absurd H (by simp)
                        ·rw [if_neg c68] at H
                         exact absurd H (by simp)
                      ·rw [if_neg c66] at H
                       exact absurd H (by simp)
                     ·rw [if_neg c64] at H
                      have c64b0 : decide (x27_6 < ((rd_T39 t545 x154_5).f1)) = false := decide_eq_false c64
                      clear c64
                      have H' := Aside0.mk H
                      clear H
                      have hcz77_0 : wr.cell? ⟨gb551, 0, none⟩ = some (.int .i64 ((rd_T39 t545 x154_5).f0)) := (blk_cell BK551.out 0).trans rfl
                      have hcz77_1 : wr.cell? ⟨gb551, 1, none⟩ = some (.int .i64 ((rd_T39 t545 x154_5).f1)) := (blk_cell BK551.out 1).trans rfl
                      have hfz77_0 := blk_frozen BK551.out 0
                      have hfz77_1 := blk_frozen BK551.out 1
                      go_wp2
                      repeat (go_quiet (fail); try go_wp2)
                      go_roundg k6
                      case measure => have := HJ4.out; have := HJ8.out; have := HJ16.out; have := HJ28.out; have := HK5.out; have := HK6.out; omega
                      case rel => exact ⟨(x24_6), (wrap64 (x154_5 + 1)), (by first | rfl | (simp; done) | (simp [*]; done)), (by first | rfl | (simp; done) | (simp [*]; done)), H', ⟨by have := HJ4.out; have := HJ8.out; have := HJ16.out; have := HJ28.out; have := HK5.out; have := HK6.out; omega⟩, ⟨pxr HO_15⟩, ⟨by (with_reducible repeat (first | apply Kd.R_alloc | apply Kd.R_drewN | apply Kd.R_drew)); exact Kd.R_mono HO_152.out (fun _ hk => trivial)⟩, ⟨pxb HB⟩⟩
                  ·rw [if_neg c61] at H
                   exact absurd H (by simp)
                 ·rw [if_neg c60] at H
                  exact absurd H (by simp)
                ·rw [if_neg c59] at H
                 have c59b0 : decide (x154_5 < (t545.length : Int)) = false := decide_eq_false c59
                 clear c59
                 replace H := Option.bind_eq_some_iff.mp H
                 obtain ⟨t549, A780, H⟩ := H
                 replace H : (some ((wrap64 ((wrap64 ((a0.size : Int) + (a2.size : Int))) - (wrap64 (2 * x24_5)))) == t549)) = some r := H
                 have A78 := Aside0.mk A780
                 clear A780
                 obtain rfl := Option.some.inj H
                 go_wp2_with (first | (go_at_call 16; (with_reducible refine (edit_Cost.calls k5 _ _ t523 t549 _ ?side1 ?side2 A78.out).mono ?_); (case side1 => repeat (first | exact (Kd.R_reads' HO_15.out).2.2 | (with_reducible refine Kd.C_alloc ?_ _) | (with_reducible refine Kd.C_drewN ?_ _) | (with_reducible refine Kd.C_drew ?_))); (case side2 => exact (Kd.R_reads' HO_15.out).2.1); rintro e w79 ⟨rfl, hb⟩; replace HO_15 := Aside0.mk (Kd.R_below (pxr HO_15) hb); replace HO_152 := Aside0.mk (Kd.R_below (pxr HO_152) hb); replace HB := pxs HB hb; (try clear hb); (try clear hb2); (try clear hk); (try clear hi)))
                 repeat (go_quiet (fail); try go_wp2_with (first | (go_at_call 16; (with_reducible refine (edit_Cost.calls k5 _ _ t523 t549 _ ?side1 ?side2 A78.out).mono ?_); (case side1 => repeat (first | exact (Kd.R_reads' HO_15.out).2.2 | (with_reducible refine Kd.C_alloc ?_ _) | (with_reducible refine Kd.C_drewN ?_ _) | (with_reducible refine Kd.C_drew ?_))); (case side2 => exact (Kd.R_reads' HO_15.out).2.1); rintro e w79 ⟨rfl, hb⟩; replace HO_15 := Aside0.mk (Kd.R_below (pxr HO_15) hb); replace HO_152 := Aside0.mk (Kd.R_below (pxr HO_152) hb); replace HB := pxs HB hb; (try clear hb); (try clear hb2); (try clear hk); (try clear hi))))
                 go_ret
                 exact ⟨by first | rfl | (simp [errW_none, errW_some] <;> rfl) | (simp [*, errW_none, errW_some] <;> rfl), pxb HB⟩
             ·rw [if_neg c55] at H
              exact absurd H (by simp)

/-- THE ONE PURE STATEMENT of caulkertop_WholeDiffs. -/
def caulkertop_WholeDiffs.Pure : Prop := ∀ (a0 : ByteArray) (a1 : ByteArray) (a2 : ByteArray), a0.size ≤ 140737488351232 → a1.size ≤ 140737488351232 → a2.size ≤ 140737488351232 → ∃ k, caulkertop_WholeDiffs.f k a0 a1 a2 = some true

end Go.Proofs.Ytoljmjhmieaggaa.X
