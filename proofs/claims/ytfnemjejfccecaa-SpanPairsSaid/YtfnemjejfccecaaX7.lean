/- What the program's functions answer, as Lean functions, and that each call does just that; no condition. Written by a program (px.py) out of the translation. -/
import Derived.Test.YtfnemjejfccecaaX0
import Derived.Test.YtfnemjejfccecaaXE24
import Derived.Test.YtfnemjejfccecaaX26
import Derived.Test.YtfnemjejfccecaaX14
import Derived.Test.YtfnemjejfccecaaX19
import Derived.Test.YtfnemjejfccecaaX23
import Derived.Test.YtfnemjejfccecaaX24
import Derived.Test.YtfnemjejfccecaaX25
namespace Go.Proofs.Ytfnemjejfccecaa.X
open Go.RowKit Go.Proofs.YtfnemjejfccecaaW.PrintWords Go.Proofs.YtfnemjejfccecaaW.PrintLast Go.Proofs.YtfnemjejfccecaaW.PrintMore
attribute [local go_sem] max2_int min2_int max_two min_two max_three min_three max_four min_four   -- for this text's walks alone
set_option linter.unusedVariables false
set_option linter.unusedSimpArgs false

attribute [local go_sem high] eqA24
/-! ### caulkerlaw01_SpanPairs: function 7 -/
mutual
def caulkerlaw01_SpanPairs.j1 : Nat → Int → Int → Int → Int → Int → Option (Bool)
 | 0, _, _, _, _, _ => none
 | k + 1, x5, x214000, x214001, x215000, x215001 => (span_Compare.f x214000 x214001 x215000 x215001).bind fun t216 => (if ((decide (t216 < 0)) != (decide (x5 < 0))) = true then (caulkerlaw01_SpanPairs.j2 k true x214000 x214001 x215000 x215001) else (caulkerlaw01_SpanPairs.j2 k ((decide (t216 > 0)) != (decide (x5 > 0))) x214000 x214001 x215000 x215001))
def caulkerlaw01_SpanPairs.j2 : Nat → Bool → Int → Int → Int → Int → Option (Bool)
 | 0, _, _, _, _, _ => none
 | k + 1, x53, x214000, x214001, x215000, x215001 => if x53 = true then (some false) else ((span_Meet.f k x214000 x214001 x215000 x215001).bind fun bt217 => ((caulkerlaw01_may.f x214000 x214001).bind fun t221 => (if t221 = true then ((caulkerlaw01_may.f x215000 x215001).bind fun t222 => (caulkerlaw01_SpanPairs.j3 k bt217.2.2 (!t222) x214000 x214001 x215000 x215001 bt217.1 bt217.2.1)) else (caulkerlaw01_SpanPairs.j3 k bt217.2.2 true x214000 x214001 x215000 x215001 bt217.1 bt217.2.1))))
def caulkerlaw01_SpanPairs.j3 : Nat → Bool → Bool → Int → Int → Int → Int → Int → Int → Option (Bool)
 | 0, _, _, _, _, _, _, _, _ => none
 | k + 1, x8, x67, x214000, x214001, x215000, x215001, x221000, x221001 => if x67 = true then (if x8 = true then (some false) else (if (x221000 == 0 && (x221001 == 0)) = true then ((span_Holds.f k x214000 x214001 x215000 x215001).bind fun t223 => (if t223 = true then (some false) else ((span_Apart.f k x214000 x214001 x215000 x215001).bind fun t224 => (some (!t224))))) else (some false))) else (if (x8 != (decide ((mx x214000 x215000) < (mn x214001 x215001)))) = true then (caulkerlaw01_SpanPairs.j4 k x8 true x214000 x214001 x215000 x215001) else (if x8 = true then (if (!(x221000 == (mx x214000 x215000)) || (!(x221001 == (mn x214001 x215001)))) = true then (caulkerlaw01_SpanPairs.j4 k x8 true x214000 x214001 x215000 x215001) else (caulkerlaw01_SpanPairs.j4 k x8 false x214000 x214001 x215000 x215001)) else (caulkerlaw01_SpanPairs.j4 k x8 (!(x221000 == 0) || (!(x221001 == 0))) x214000 x214001 x215000 x215001)))
def caulkerlaw01_SpanPairs.j4 : Nat → Bool → Bool → Int → Int → Int → Int → Option (Bool)
 | 0, _, _, _, _, _, _ => none
 | k + 1, x8, x120, x214000, x214001, x215000, x215001 => if x120 = true then (some false) else (if x214000 ≤ x215000 then (caulkerlaw01_SpanPairs.j5 k x8 (decide (x215001 ≤ x214001)) x214000 x214001 x215000 x215001) else (caulkerlaw01_SpanPairs.j5 k x8 false x214000 x214001 x215000 x215001))
def caulkerlaw01_SpanPairs.j5 : Nat → Bool → Bool → Int → Int → Int → Int → Option (Bool)
 | 0, _, _, _, _, _, _ => none
 | k + 1, x8, x11, x214000, x214001, x215000, x215001 => if x214001 ≤ x215000 then (caulkerlaw01_SpanPairs.j6 k x8 x11 true x214000 x214001 x215000 x215001) else (caulkerlaw01_SpanPairs.j6 k x8 x11 (decide (x215001 ≤ x214000)) x214000 x214001 x215000 x215001)
def caulkerlaw01_SpanPairs.j6 : Nat → Bool → Bool → Bool → Int → Int → Int → Int → Option (Bool)
 | 0, _, _, _, _, _, _, _ => none
 | k + 1, x8, x11, x12, x214000, x214001, x215000, x215001 => if (x214000 == x215000 && (x214001 == x215001)) = true then (caulkerlaw01_SpanPairs.j7 k x8 x11 x12 (x214000 == x214001) x214000 x214001 x215000 x215001) else (caulkerlaw01_SpanPairs.j7 k x8 x11 x12 false x214000 x214001 x215000 x215001)
def caulkerlaw01_SpanPairs.j7 : Nat → Bool → Bool → Bool → Bool → Int → Int → Int → Int → Option (Bool)
 | 0, _, _, _, _, _, _, _, _ => none
 | k + 1, x8, x11, x12, x154, x214000, x214001, x215000, x215001 => if x154 = true then ((span_Holds.f k x214000 x214001 x215000 x215001).bind fun t225 => (if (t225 == x11) = true then ((span_Apart.f k x214000 x214001 x215000 x215001).bind fun t226 => (if (t226 == false) = true then ((span_Apart.f k x215000 x215001 x214000 x214001).bind fun t227 => (if (t227 == false) = true then (some (!false)) else (some false))) else (some false))) else (some false))) else ((span_Holds.f k x214000 x214001 x215000 x215001).bind fun t228 => (if (t228 == x11) = true then ((span_Apart.f k x214000 x214001 x215000 x215001).bind fun t229 => (if (t229 == x12) = true then ((span_Apart.f k x215000 x215001 x214000 x214001).bind fun t230 => (if (t230 == x12) = true then (if x12 = true then (some (!x8)) else (some (!false))) else (some false))) else (some false))) else (some false)))
def caulkerlaw01_SpanPairs.j0 : Nat → Int → Bool → Int → Int → Int → Int → Option (Bool)
 | 0, _, _, _, _, _, _ => none
 | k + 1, x5, x15, x214000, x214001, x215000, x215001 => if x15 = true then (caulkerlaw01_SpanPairs.j1 k (-1) x214000 x214001 x215000 x215001) else (if (!(x214000 == x215000) || (!(x214001 == x215001))) = true then (caulkerlaw01_SpanPairs.j1 k 1 x214000 x214001 x215000 x215001) else (caulkerlaw01_SpanPairs.j1 k x5 x214000 x214001 x215000 x215001))
end
def caulkerlaw01_SpanPairs.f (k : Nat) (a0_0 : Int) (a0_1 : Int) (a1_0 : Int) (a1_1 : Int) : Option (Bool) := (caulkerlaw01_spans.f k).bind fun t215 => (if t215 = true then (if a0_0 < a1_0 then (caulkerlaw01_SpanPairs.j0 k 0 true a0_0 a0_1 a1_0 a1_1) else (if a0_0 = a1_0 then (caulkerlaw01_SpanPairs.j0 k 0 (decide (a0_1 < a1_1)) a0_0 a0_1 a1_0 a1_1) else (caulkerlaw01_SpanPairs.j0 k 0 false a0_0 a0_1 a1_0 a1_1))) else (some false))
theorem caulkerlaw01_SpanPairs.mono_l : ∀ k, (∀ y0 y1 y2 y3 y4, LeO (caulkerlaw01_SpanPairs.j1 k y0 y1 y2 y3 y4) (caulkerlaw01_SpanPairs.j1 (k + 1) y0 y1 y2 y3 y4)) ∧ (∀ y0 y1 y2 y3 y4, LeO (caulkerlaw01_SpanPairs.j2 k y0 y1 y2 y3 y4) (caulkerlaw01_SpanPairs.j2 (k + 1) y0 y1 y2 y3 y4)) ∧ (∀ y0 y1 y2 y3 y4 y5 y6 y7, LeO (caulkerlaw01_SpanPairs.j3 k y0 y1 y2 y3 y4 y5 y6 y7) (caulkerlaw01_SpanPairs.j3 (k + 1) y0 y1 y2 y3 y4 y5 y6 y7)) ∧ (∀ y0 y1 y2 y3 y4 y5, LeO (caulkerlaw01_SpanPairs.j4 k y0 y1 y2 y3 y4 y5) (caulkerlaw01_SpanPairs.j4 (k + 1) y0 y1 y2 y3 y4 y5)) ∧ (∀ y0 y1 y2 y3 y4 y5, LeO (caulkerlaw01_SpanPairs.j5 k y0 y1 y2 y3 y4 y5) (caulkerlaw01_SpanPairs.j5 (k + 1) y0 y1 y2 y3 y4 y5)) ∧ (∀ y0 y1 y2 y3 y4 y5 y6, LeO (caulkerlaw01_SpanPairs.j6 k y0 y1 y2 y3 y4 y5 y6) (caulkerlaw01_SpanPairs.j6 (k + 1) y0 y1 y2 y3 y4 y5 y6)) ∧ (∀ y0 y1 y2 y3 y4 y5 y6 y7, LeO (caulkerlaw01_SpanPairs.j7 k y0 y1 y2 y3 y4 y5 y6 y7) (caulkerlaw01_SpanPairs.j7 (k + 1) y0 y1 y2 y3 y4 y5 y6 y7)) ∧ (∀ y0 y1 y2 y3 y4 y5, LeO (caulkerlaw01_SpanPairs.j0 k y0 y1 y2 y3 y4 y5) (caulkerlaw01_SpanPairs.j0 (k + 1) y0 y1 y2 y3 y4 y5))
 | 0 => ⟨fun _ _ _ _ _ r h => by simp [caulkerlaw01_SpanPairs.j1] at h, fun _ _ _ _ _ r h => by simp [caulkerlaw01_SpanPairs.j2] at h, fun _ _ _ _ _ _ _ _ r h => by simp [caulkerlaw01_SpanPairs.j3] at h, fun _ _ _ _ _ _ r h => by simp [caulkerlaw01_SpanPairs.j4] at h, fun _ _ _ _ _ _ r h => by simp [caulkerlaw01_SpanPairs.j5] at h, fun _ _ _ _ _ _ _ r h => by simp [caulkerlaw01_SpanPairs.j6] at h, fun _ _ _ _ _ _ _ _ r h => by simp [caulkerlaw01_SpanPairs.j7] at h, fun _ _ _ _ _ _ r h => by simp [caulkerlaw01_SpanPairs.j0] at h⟩
 | k + 1 => by
  obtain ⟨ih0, ih1, ih2, ih3, ih4, ih5, ih6, ih7⟩ := caulkerlaw01_SpanPairs.mono_l k
  refine ⟨?_, ?_, ?_, ?_, ?_, ?_, ?_, ?_⟩
  ·intro y0 y1 y2 y3 y4
   unfold caulkerlaw01_SpanPairs.j1
   repeat' first
   | (with_reducible exact ih0 _ _ _ _ _)
   | (with_reducible exact ih1 _ _ _ _ _)
   | (with_reducible exact ih2 _ _ _ _ _ _ _ _)
   | (with_reducible exact ih3 _ _ _ _ _ _)
   | (with_reducible exact ih4 _ _ _ _ _ _)
   | (with_reducible exact ih5 _ _ _ _ _ _ _)
   | (with_reducible exact ih6 _ _ _ _ _ _ _ _)
   | (with_reducible exact ih7 _ _ _ _ _ _)
   | (with_reducible exact caulkerlaw01_spans.mono _)
   | (with_reducible exact span_Apart.mono _ _ _ _ _)
   | (with_reducible exact span_Holds.mono _ _ _ _ _)
   | (with_reducible exact span_Meet.mono _ _ _ _ _)
   | (with_reducible exact LeO.refl _)
   | (with_reducible exact LeO.none _)
   | (with_reducible refine LeO.ite ?_ ?_)
   | (with_reducible refine LeO.bind ?_ (fun _ => ?_))
   | exact ih0 _ _ _ _ _
   | exact ih1 _ _ _ _ _
   | exact ih2 _ _ _ _ _ _ _ _
   | exact ih3 _ _ _ _ _ _
   | exact ih4 _ _ _ _ _ _
   | exact ih5 _ _ _ _ _ _ _
   | exact ih6 _ _ _ _ _ _ _ _
   | exact ih7 _ _ _ _ _ _
   | exact caulkerlaw01_spans.mono _
   | exact span_Apart.mono _ _ _ _ _
   | exact span_Holds.mono _ _ _ _ _
   | exact span_Meet.mono _ _ _ _ _
   | exact LeO.none _
   | refine LeO.ite ?_ ?_
   | refine LeO.bind ?_ (fun _ => ?_)
  ·intro y0 y1 y2 y3 y4
   unfold caulkerlaw01_SpanPairs.j2
   repeat' first
   | (with_reducible exact ih0 _ _ _ _ _)
   | (with_reducible exact ih1 _ _ _ _ _)
   | (with_reducible exact ih2 _ _ _ _ _ _ _ _)
   | (with_reducible exact ih3 _ _ _ _ _ _)
   | (with_reducible exact ih4 _ _ _ _ _ _)
   | (with_reducible exact ih5 _ _ _ _ _ _ _)
   | (with_reducible exact ih6 _ _ _ _ _ _ _ _)
   | (with_reducible exact ih7 _ _ _ _ _ _)
   | (with_reducible exact caulkerlaw01_spans.mono _)
   | (with_reducible exact span_Apart.mono _ _ _ _ _)
   | (with_reducible exact span_Holds.mono _ _ _ _ _)
   | (with_reducible exact span_Meet.mono _ _ _ _ _)
   | (with_reducible exact LeO.refl _)
   | (with_reducible exact LeO.none _)
   | (with_reducible refine LeO.ite ?_ ?_)
   | (with_reducible refine LeO.bind ?_ (fun _ => ?_))
   | exact ih0 _ _ _ _ _
   | exact ih1 _ _ _ _ _
   | exact ih2 _ _ _ _ _ _ _ _
   | exact ih3 _ _ _ _ _ _
   | exact ih4 _ _ _ _ _ _
   | exact ih5 _ _ _ _ _ _ _
   | exact ih6 _ _ _ _ _ _ _ _
   | exact ih7 _ _ _ _ _ _
   | exact caulkerlaw01_spans.mono _
   | exact span_Apart.mono _ _ _ _ _
   | exact span_Holds.mono _ _ _ _ _
   | exact span_Meet.mono _ _ _ _ _
   | exact LeO.none _
   | refine LeO.ite ?_ ?_
   | refine LeO.bind ?_ (fun _ => ?_)
  ·intro y0 y1 y2 y3 y4 y5 y6 y7
   unfold caulkerlaw01_SpanPairs.j3
   repeat' first
   | (with_reducible exact ih0 _ _ _ _ _)
   | (with_reducible exact ih1 _ _ _ _ _)
   | (with_reducible exact ih2 _ _ _ _ _ _ _ _)
   | (with_reducible exact ih3 _ _ _ _ _ _)
   | (with_reducible exact ih4 _ _ _ _ _ _)
   | (with_reducible exact ih5 _ _ _ _ _ _ _)
   | (with_reducible exact ih6 _ _ _ _ _ _ _ _)
   | (with_reducible exact ih7 _ _ _ _ _ _)
   | (with_reducible exact caulkerlaw01_spans.mono _)
   | (with_reducible exact span_Apart.mono _ _ _ _ _)
   | (with_reducible exact span_Holds.mono _ _ _ _ _)
   | (with_reducible exact span_Meet.mono _ _ _ _ _)
   | (with_reducible exact LeO.refl _)
   | (with_reducible exact LeO.none _)
   | (with_reducible refine LeO.ite ?_ ?_)
   | (with_reducible refine LeO.bind ?_ (fun _ => ?_))
   | exact ih0 _ _ _ _ _
   | exact ih1 _ _ _ _ _
   | exact ih2 _ _ _ _ _ _ _ _
   | exact ih3 _ _ _ _ _ _
   | exact ih4 _ _ _ _ _ _
   | exact ih5 _ _ _ _ _ _ _
   | exact ih6 _ _ _ _ _ _ _ _
   | exact ih7 _ _ _ _ _ _
   | exact caulkerlaw01_spans.mono _
   | exact span_Apart.mono _ _ _ _ _
   | exact span_Holds.mono _ _ _ _ _
   | exact span_Meet.mono _ _ _ _ _
   | exact LeO.none _
   | refine LeO.ite ?_ ?_
   | refine LeO.bind ?_ (fun _ => ?_)
  ·intro y0 y1 y2 y3 y4 y5
   unfold caulkerlaw01_SpanPairs.j4
   repeat' first
   | (with_reducible exact ih0 _ _ _ _ _)
   | (with_reducible exact ih1 _ _ _ _ _)
   | (with_reducible exact ih2 _ _ _ _ _ _ _ _)
   | (with_reducible exact ih3 _ _ _ _ _ _)
   | (with_reducible exact ih4 _ _ _ _ _ _)
   | (with_reducible exact ih5 _ _ _ _ _ _ _)
   | (with_reducible exact ih6 _ _ _ _ _ _ _ _)
   | (with_reducible exact ih7 _ _ _ _ _ _)
   | (with_reducible exact caulkerlaw01_spans.mono _)
   | (with_reducible exact span_Apart.mono _ _ _ _ _)
   | (with_reducible exact span_Holds.mono _ _ _ _ _)
   | (with_reducible exact span_Meet.mono _ _ _ _ _)
   | (with_reducible exact LeO.refl _)
   | (with_reducible exact LeO.none _)
   | (with_reducible refine LeO.ite ?_ ?_)
   | (with_reducible refine LeO.bind ?_ (fun _ => ?_))
   | exact ih0 _ _ _ _ _
   | exact ih1 _ _ _ _ _
   | exact ih2 _ _ _ _ _ _ _ _
   | exact ih3 _ _ _ _ _ _
   | exact ih4 _ _ _ _ _ _
   | exact ih5 _ _ _ _ _ _ _
   | exact ih6 _ _ _ _ _ _ _ _
   | exact ih7 _ _ _ _ _ _
   | exact caulkerlaw01_spans.mono _
   | exact span_Apart.mono _ _ _ _ _
   | exact span_Holds.mono _ _ _ _ _
   | exact span_Meet.mono _ _ _ _ _
   | exact LeO.none _
   | refine LeO.ite ?_ ?_
   | refine LeO.bind ?_ (fun _ => ?_)
  ·intro y0 y1 y2 y3 y4 y5
   unfold caulkerlaw01_SpanPairs.j5
   repeat' first
   | (with_reducible exact ih0 _ _ _ _ _)
   | (with_reducible exact ih1 _ _ _ _ _)
   | (with_reducible exact ih2 _ _ _ _ _ _ _ _)
   | (with_reducible exact ih3 _ _ _ _ _ _)
   | (with_reducible exact ih4 _ _ _ _ _ _)
   | (with_reducible exact ih5 _ _ _ _ _ _ _)
   | (with_reducible exact ih6 _ _ _ _ _ _ _ _)
   | (with_reducible exact ih7 _ _ _ _ _ _)
   | (with_reducible exact caulkerlaw01_spans.mono _)
   | (with_reducible exact span_Apart.mono _ _ _ _ _)
   | (with_reducible exact span_Holds.mono _ _ _ _ _)
   | (with_reducible exact span_Meet.mono _ _ _ _ _)
   | (with_reducible exact LeO.refl _)
   | (with_reducible exact LeO.none _)
   | (with_reducible refine LeO.ite ?_ ?_)
   | (with_reducible refine LeO.bind ?_ (fun _ => ?_))
   | exact ih0 _ _ _ _ _
   | exact ih1 _ _ _ _ _
   | exact ih2 _ _ _ _ _ _ _ _
   | exact ih3 _ _ _ _ _ _
   | exact ih4 _ _ _ _ _ _
   | exact ih5 _ _ _ _ _ _ _
   | exact ih6 _ _ _ _ _ _ _ _
   | exact ih7 _ _ _ _ _ _
   | exact caulkerlaw01_spans.mono _
   | exact span_Apart.mono _ _ _ _ _
   | exact span_Holds.mono _ _ _ _ _
   | exact span_Meet.mono _ _ _ _ _
   | exact LeO.none _
   | refine LeO.ite ?_ ?_
   | refine LeO.bind ?_ (fun _ => ?_)
  ·intro y0 y1 y2 y3 y4 y5 y6
   unfold caulkerlaw01_SpanPairs.j6
   repeat' first
   | (with_reducible exact ih0 _ _ _ _ _)
   | (with_reducible exact ih1 _ _ _ _ _)
   | (with_reducible exact ih2 _ _ _ _ _ _ _ _)
   | (with_reducible exact ih3 _ _ _ _ _ _)
   | (with_reducible exact ih4 _ _ _ _ _ _)
   | (with_reducible exact ih5 _ _ _ _ _ _ _)
   | (with_reducible exact ih6 _ _ _ _ _ _ _ _)
   | (with_reducible exact ih7 _ _ _ _ _ _)
   | (with_reducible exact caulkerlaw01_spans.mono _)
   | (with_reducible exact span_Apart.mono _ _ _ _ _)
   | (with_reducible exact span_Holds.mono _ _ _ _ _)
   | (with_reducible exact span_Meet.mono _ _ _ _ _)
   | (with_reducible exact LeO.refl _)
   | (with_reducible exact LeO.none _)
   | (with_reducible refine LeO.ite ?_ ?_)
   | (with_reducible refine LeO.bind ?_ (fun _ => ?_))
   | exact ih0 _ _ _ _ _
   | exact ih1 _ _ _ _ _
   | exact ih2 _ _ _ _ _ _ _ _
   | exact ih3 _ _ _ _ _ _
   | exact ih4 _ _ _ _ _ _
   | exact ih5 _ _ _ _ _ _ _
   | exact ih6 _ _ _ _ _ _ _ _
   | exact ih7 _ _ _ _ _ _
   | exact caulkerlaw01_spans.mono _
   | exact span_Apart.mono _ _ _ _ _
   | exact span_Holds.mono _ _ _ _ _
   | exact span_Meet.mono _ _ _ _ _
   | exact LeO.none _
   | refine LeO.ite ?_ ?_
   | refine LeO.bind ?_ (fun _ => ?_)
  ·intro y0 y1 y2 y3 y4 y5 y6 y7
   unfold caulkerlaw01_SpanPairs.j7
   repeat' first
   | (with_reducible exact ih0 _ _ _ _ _)
   | (with_reducible exact ih1 _ _ _ _ _)
   | (with_reducible exact ih2 _ _ _ _ _ _ _ _)
   | (with_reducible exact ih3 _ _ _ _ _ _)
   | (with_reducible exact ih4 _ _ _ _ _ _)
   | (with_reducible exact ih5 _ _ _ _ _ _ _)
   | (with_reducible exact ih6 _ _ _ _ _ _ _ _)
   | (with_reducible exact ih7 _ _ _ _ _ _)
   | (with_reducible exact caulkerlaw01_spans.mono _)
   | (with_reducible exact span_Apart.mono _ _ _ _ _)
   | (with_reducible exact span_Holds.mono _ _ _ _ _)
   | (with_reducible exact span_Meet.mono _ _ _ _ _)
   | (with_reducible exact LeO.refl _)
   | (with_reducible exact LeO.none _)
   | (with_reducible refine LeO.ite ?_ ?_)
   | (with_reducible refine LeO.bind ?_ (fun _ => ?_))
   | exact ih0 _ _ _ _ _
   | exact ih1 _ _ _ _ _
   | exact ih2 _ _ _ _ _ _ _ _
   | exact ih3 _ _ _ _ _ _
   | exact ih4 _ _ _ _ _ _
   | exact ih5 _ _ _ _ _ _ _
   | exact ih6 _ _ _ _ _ _ _ _
   | exact ih7 _ _ _ _ _ _
   | exact caulkerlaw01_spans.mono _
   | exact span_Apart.mono _ _ _ _ _
   | exact span_Holds.mono _ _ _ _ _
   | exact span_Meet.mono _ _ _ _ _
   | exact LeO.none _
   | refine LeO.ite ?_ ?_
   | refine LeO.bind ?_ (fun _ => ?_)
  ·intro y0 y1 y2 y3 y4 y5
   unfold caulkerlaw01_SpanPairs.j0
   repeat' first
   | (with_reducible exact ih0 _ _ _ _ _)
   | (with_reducible exact ih1 _ _ _ _ _)
   | (with_reducible exact ih2 _ _ _ _ _ _ _ _)
   | (with_reducible exact ih3 _ _ _ _ _ _)
   | (with_reducible exact ih4 _ _ _ _ _ _)
   | (with_reducible exact ih5 _ _ _ _ _ _ _)
   | (with_reducible exact ih6 _ _ _ _ _ _ _ _)
   | (with_reducible exact ih7 _ _ _ _ _ _)
   | (with_reducible exact caulkerlaw01_spans.mono _)
   | (with_reducible exact span_Apart.mono _ _ _ _ _)
   | (with_reducible exact span_Holds.mono _ _ _ _ _)
   | (with_reducible exact span_Meet.mono _ _ _ _ _)
   | (with_reducible exact LeO.refl _)
   | (with_reducible exact LeO.none _)
   | (with_reducible refine LeO.ite ?_ ?_)
   | (with_reducible refine LeO.bind ?_ (fun _ => ?_))
   | exact ih0 _ _ _ _ _
   | exact ih1 _ _ _ _ _
   | exact ih2 _ _ _ _ _ _ _ _
   | exact ih3 _ _ _ _ _ _
   | exact ih4 _ _ _ _ _ _
   | exact ih5 _ _ _ _ _ _ _
   | exact ih6 _ _ _ _ _ _ _ _
   | exact ih7 _ _ _ _ _ _
   | exact caulkerlaw01_spans.mono _
   | exact span_Apart.mono _ _ _ _ _
   | exact span_Holds.mono _ _ _ _ _
   | exact span_Meet.mono _ _ _ _ _
   | exact LeO.none _
   | refine LeO.ite ?_ ?_
   | refine LeO.bind ?_ (fun _ => ?_)
theorem caulkerlaw01_SpanPairs.mono : ∀ a0 a1 a2 a3 k, LeO (caulkerlaw01_SpanPairs.f k a0 a1 a2 a3) (caulkerlaw01_SpanPairs.f (k + 1) a0 a1 a2 a3) := by
 intro a0 a1 a2 a3 k
 obtain ⟨ih0, ih1, ih2, ih3, ih4, ih5, ih6, ih7⟩ := caulkerlaw01_SpanPairs.mono_l k
 unfold caulkerlaw01_SpanPairs.f
 repeat' first
   | (with_reducible exact ih0 _ _ _ _ _)
   | (with_reducible exact ih1 _ _ _ _ _)
   | (with_reducible exact ih2 _ _ _ _ _ _ _ _)
   | (with_reducible exact ih3 _ _ _ _ _ _)
   | (with_reducible exact ih4 _ _ _ _ _ _)
   | (with_reducible exact ih5 _ _ _ _ _ _ _)
   | (with_reducible exact ih6 _ _ _ _ _ _ _ _)
   | (with_reducible exact ih7 _ _ _ _ _ _)
   | (with_reducible exact caulkerlaw01_spans.mono _)
   | (with_reducible exact span_Apart.mono _ _ _ _ _)
   | (with_reducible exact span_Holds.mono _ _ _ _ _)
   | (with_reducible exact span_Meet.mono _ _ _ _ _)
   | (with_reducible exact LeO.refl _)
   | (with_reducible exact LeO.none _)
   | (with_reducible refine LeO.ite ?_ ?_)
   | (with_reducible refine LeO.bind ?_ (fun _ => ?_))
   | exact ih0 _ _ _ _ _
   | exact ih1 _ _ _ _ _
   | exact ih2 _ _ _ _ _ _ _ _
   | exact ih3 _ _ _ _ _ _
   | exact ih4 _ _ _ _ _ _
   | exact ih5 _ _ _ _ _ _ _
   | exact ih6 _ _ _ _ _ _ _ _
   | exact ih7 _ _ _ _ _ _
   | exact caulkerlaw01_spans.mono _
   | exact span_Apart.mono _ _ _ _ _
   | exact span_Holds.mono _ _ _ _ _
   | exact span_Meet.mono _ _ _ _ _
   | exact LeO.none _
   | refine LeO.ite ?_ ?_
   | refine LeO.bind ?_ (fun _ => ?_)
set_option maxHeartbeats 8000000 in
set_option maxRecDepth 100000 in
theorem caulkerlaw01_SpanPairs.calls (k : Nat) (a0_0 : Int) (a0_1 : Int) (a1_0 : Int) (a1_1 : Int) (r : Bool) (w : World) (h : caulkerlaw01_SpanPairs.f k a0_0 a0_1 a1_0 a1_1 = some r) :
  Calls Try.prog 7 #[.agg #[.int .i64 a0_0, .int .i64 a0_1], .agg #[.int .i64 a1_0, .int .i64 a1_1]] w fun e w' => e = .returned (.bool r) ∧ Below w.heap.size w w' := by
 have hu24 := Try.underlying24
 have HB := Aside0.mk (Below.refl w.heap.size w)
 have H : ((caulkerlaw01_spans.f k).bind fun t215 => (if t215 = true then (if a0_0 < a1_0 then (caulkerlaw01_SpanPairs.j0 k 0 true a0_0 a0_1 a1_0 a1_1) else (if a0_0 = a1_0 then (caulkerlaw01_SpanPairs.j0 k 0 (decide (a0_1 < a1_1)) a0_0 a0_1 a1_0 a1_1) else (caulkerlaw01_SpanPairs.j0 k 0 false a0_0 a0_1 a1_0 a1_1))) else (some false))) = some r := h
 clear h
 replace H := Option.bind_eq_some_iff.mp H
 obtain ⟨t215, A30, H⟩ := H
 replace H : (if t215 = true then (if a0_0 < a1_0 then (caulkerlaw01_SpanPairs.j0 k 0 true a0_0 a0_1 a1_0 a1_1) else (if a0_0 = a1_0 then (caulkerlaw01_SpanPairs.j0 k 0 (decide (a0_1 < a1_1)) a0_0 a0_1 a1_0 a1_1) else (caulkerlaw01_SpanPairs.j0 k 0 false a0_0 a0_1 a1_0 a1_1))) else (some false)) = some r := H
 have A3 := Aside0.mk A30
 clear A30
 by_cases c4 : t215 = true
 ·subst c4
  have H1 : (if a0_0 < a1_0 then (caulkerlaw01_SpanPairs.j0 k 0 true a0_0 a0_1 a1_0 a1_1) else (if a0_0 = a1_0 then (caulkerlaw01_SpanPairs.j0 k 0 (decide (a0_1 < a1_1)) a0_0 a0_1 a1_0 a1_1) else (caulkerlaw01_SpanPairs.j0 k 0 false a0_0 a0_1 a1_0 a1_1))) = some r := by rw [if_pos rfl] at H; exact H
  clear H
  have H := H1
  clear H1
  have HC5 := Aside0.mk H
  clear H
  go_enter Try.func7, Try.ntmps7
  go_upto_block 0 with (first | ((with_reducible refine gate_dst (N := 2) rfl ?_); refine box_event ?hg (N := 2) ?hd (cs := #[.int .i64 a0_0, .int .i64 a0_1]) (t := 24) ?hr ?_; (case hd => rfl); (case hg => rfl); (case hr => first | (go_simp; done) | (go_simp; rfl)); intro gb213 hg w6 hbox hb; have n0_ := pxs HB hb; have n1_ := Aside0.mk (hbox); have n2_ := Aside0.mk ((by rw [hg]; exact (below_size (pxb HB)) : w.heap.size ≤ gb213)); have n3_ := Aside0.mk ((by rw [hg]; exact (below_size (pxb HB)) : w.heap.size ≤ gb213)); clear HB; have HB := n0_; have BK213 := n1_; have GW213 := n2_; have GE213 := n3_; clear n0_ n1_ n2_ n3_; clear hb hbox hg) | ((with_reducible refine gate_dst (N := 3) rfl ?_); refine box_event ?hg (N := 3) ?hd (cs := #[.int .i64 a1_0, .int .i64 a1_1]) (t := 24) ?hr ?_; (case hd => rfl); (case hg => rfl); (case hr => first | (go_simp; done) | (go_simp; rfl)); intro gb214 hg w7 hbox hb; have n0_ := pxk BK213 hb; have n1_ := pxs HB hb; have n2_ := Aside0.mk (hbox); have n3_ := Aside0.mk ((by rw [hg]; exact (below_size (pxb HB)) : w.heap.size ≤ gb214)); have n4_ := Aside0.mk ((by rw [hg]; exact (below_size (pxb HB)) : w.heap.size ≤ gb214)); have n5_ := Aside0.mk ((by rw [hg]; exact Nat.ne_of_lt (blk_lt (g := gb213) (o := .cells #[.int .i64 a0_0, .int .i64 a0_1] 24 (0, 0)) (by (with_reducible repeat (first | refine blk_drewN ?_ _ | refine blk_drew ?_ | refine blk_alloc ?_ _)); exact BK213.out)) : gb213 ≠ gb214)); have n6_ := Aside0.mk ((by rw [hg]; exact Nat.ne_of_gt (blk_lt (g := gb213) (o := .cells #[.int .i64 a0_0, .int .i64 a0_1] 24 (0, 0)) (by (with_reducible repeat (first | refine blk_drewN ?_ _ | refine blk_drew ?_ | refine blk_alloc ?_ _)); exact BK213.out)) : gb214 ≠ gb213)); clear BK213; clear HB; have BK213 := n0_; have HB := n1_; have BK214 := n2_; have GW214 := n3_; have GE214 := n4_; have NB213_214 := n5_; have NB214_213 := n6_; clear n0_ n1_ n2_ n3_ n4_ n5_ n6_; clear hb hbox hg) | (go_at_call 14; (with_reducible refine (caulkerlaw01_spans.calls k  true _ A3.out).mono ?_); rintro e w8 ⟨rfl, hb⟩; have n0_ := pxk BK213 hb; have n1_ := pxk BK214 hb; have n2_ := pxs HB hb; clear BK213; clear BK214; clear HB; have BK213 := n0_; have BK214 := n1_; have HB := n2_; clear n0_ n1_ n2_; (try clear hb); (try clear hb2); (try clear hk); (try clear hi)))
  repeat (go_quiet (first | ((with_reducible refine gate_dst (N := 2) rfl ?_); refine box_event ?hg (N := 2) ?hd (cs := #[.int .i64 a0_0, .int .i64 a0_1]) (t := 24) ?hr ?_; (case hd => rfl); (case hg => rfl); (case hr => first | (go_simp; done) | (go_simp; rfl)); intro gb213 hg w6 hbox hb; have n0_ := pxs HB hb; have n1_ := Aside0.mk (hbox); have n2_ := Aside0.mk ((by rw [hg]; exact (below_size (pxb HB)) : w.heap.size ≤ gb213)); have n3_ := Aside0.mk ((by rw [hg]; exact (below_size (pxb HB)) : w.heap.size ≤ gb213)); clear HB; have HB := n0_; have BK213 := n1_; have GW213 := n2_; have GE213 := n3_; clear n0_ n1_ n2_ n3_; clear hb hbox hg) | ((with_reducible refine gate_dst (N := 3) rfl ?_); refine box_event ?hg (N := 3) ?hd (cs := #[.int .i64 a1_0, .int .i64 a1_1]) (t := 24) ?hr ?_; (case hd => rfl); (case hg => rfl); (case hr => first | (go_simp; done) | (go_simp; rfl)); intro gb214 hg w7 hbox hb; have n0_ := pxk BK213 hb; have n1_ := pxs HB hb; have n2_ := Aside0.mk (hbox); have n3_ := Aside0.mk ((by rw [hg]; exact (below_size (pxb HB)) : w.heap.size ≤ gb214)); have n4_ := Aside0.mk ((by rw [hg]; exact (below_size (pxb HB)) : w.heap.size ≤ gb214)); have n5_ := Aside0.mk ((by rw [hg]; exact Nat.ne_of_lt (blk_lt (g := gb213) (o := .cells #[.int .i64 a0_0, .int .i64 a0_1] 24 (0, 0)) (by (with_reducible repeat (first | refine blk_drewN ?_ _ | refine blk_drew ?_ | refine blk_alloc ?_ _)); exact BK213.out)) : gb213 ≠ gb214)); have n6_ := Aside0.mk ((by rw [hg]; exact Nat.ne_of_gt (blk_lt (g := gb213) (o := .cells #[.int .i64 a0_0, .int .i64 a0_1] 24 (0, 0)) (by (with_reducible repeat (first | refine blk_drewN ?_ _ | refine blk_drew ?_ | refine blk_alloc ?_ _)); exact BK213.out)) : gb214 ≠ gb213)); clear BK213; clear HB; have BK213 := n0_; have HB := n1_; have BK214 := n2_; have GW214 := n3_; have GE214 := n4_; have NB213_214 := n5_; have NB214_213 := n6_; clear n0_ n1_ n2_ n3_ n4_ n5_ n6_; clear hb hbox hg) | (go_at_call 14; (with_reducible refine (caulkerlaw01_spans.calls k  true _ A3.out).mono ?_); rintro e w8 ⟨rfl, hb⟩; have n0_ := pxk BK213 hb; have n1_ := pxk BK214 hb; have n2_ := pxs HB hb; clear BK213; clear BK214; clear HB; have BK213 := n0_; have BK214 := n1_; have HB := n2_; clear n0_ n1_ n2_; (try clear hb); (try clear hb2); (try clear hk); (try clear hi))); go_upto_block 0 with (first | ((with_reducible refine gate_dst (N := 2) rfl ?_); refine box_event ?hg (N := 2) ?hd (cs := #[.int .i64 a0_0, .int .i64 a0_1]) (t := 24) ?hr ?_; (case hd => rfl); (case hg => rfl); (case hr => first | (go_simp; done) | (go_simp; rfl)); intro gb213 hg w6 hbox hb; have n0_ := pxs HB hb; have n1_ := Aside0.mk (hbox); have n2_ := Aside0.mk ((by rw [hg]; exact (below_size (pxb HB)) : w.heap.size ≤ gb213)); have n3_ := Aside0.mk ((by rw [hg]; exact (below_size (pxb HB)) : w.heap.size ≤ gb213)); clear HB; have HB := n0_; have BK213 := n1_; have GW213 := n2_; have GE213 := n3_; clear n0_ n1_ n2_ n3_; clear hb hbox hg) | ((with_reducible refine gate_dst (N := 3) rfl ?_); refine box_event ?hg (N := 3) ?hd (cs := #[.int .i64 a1_0, .int .i64 a1_1]) (t := 24) ?hr ?_; (case hd => rfl); (case hg => rfl); (case hr => first | (go_simp; done) | (go_simp; rfl)); intro gb214 hg w7 hbox hb; have n0_ := pxk BK213 hb; have n1_ := pxs HB hb; have n2_ := Aside0.mk (hbox); have n3_ := Aside0.mk ((by rw [hg]; exact (below_size (pxb HB)) : w.heap.size ≤ gb214)); have n4_ := Aside0.mk ((by rw [hg]; exact (below_size (pxb HB)) : w.heap.size ≤ gb214)); have n5_ := Aside0.mk ((by rw [hg]; exact Nat.ne_of_lt (blk_lt (g := gb213) (o := .cells #[.int .i64 a0_0, .int .i64 a0_1] 24 (0, 0)) (by (with_reducible repeat (first | refine blk_drewN ?_ _ | refine blk_drew ?_ | refine blk_alloc ?_ _)); exact BK213.out)) : gb213 ≠ gb214)); have n6_ := Aside0.mk ((by rw [hg]; exact Nat.ne_of_gt (blk_lt (g := gb213) (o := .cells #[.int .i64 a0_0, .int .i64 a0_1] 24 (0, 0)) (by (with_reducible repeat (first | refine blk_drewN ?_ _ | refine blk_drew ?_ | refine blk_alloc ?_ _)); exact BK213.out)) : gb214 ≠ gb213)); clear BK213; clear HB; have BK213 := n0_; have HB := n1_; have BK214 := n2_; have GW214 := n3_; have GE214 := n4_; have NB213_214 := n5_; have NB214_213 := n6_; clear n0_ n1_ n2_ n3_ n4_ n5_ n6_; clear hb hbox hg) | (go_at_call 14; (with_reducible refine (caulkerlaw01_spans.calls k  true _ A3.out).mono ?_); rintro e w8 ⟨rfl, hb⟩; have n0_ := pxk BK213 hb; have n1_ := pxk BK214 hb; have n2_ := pxs HB hb; clear BK213; clear BK214; clear HB; have BK213 := n0_; have BK214 := n1_; have HB := n2_; clear n0_ n1_ n2_; (try clear hb); (try clear hb2); (try clear hk); (try clear hi))))
  (try simp only [Act.put, List.setIfInBounds_toArray, List.set_cons_zero, List.set_cons_succ])
  go_cut [5] (fun v5 wc => ∃ (kq : Nat) (x5_4 : Int), v5 = .int .i64 x5_4 ∧ Aside0 (caulkerlaw01_SpanPairs.j1 kq x5_4 a0_0 a0_1 a1_0 a1_1 = some r) ∧ Aside0 (kq ≤ k) ∧ Aside0 (wc.heap[gb213]? = some (.cells #[.int .i64 a0_0, .int .i64 a0_1] 24 (0, 0))) ∧ Aside0 (wc.heap[gb214]? = some (.cells #[.int .i64 a1_0, .int .i64 a1_1] 24 (0, 0))) ∧ Aside0 (Below w.heap.size w wc))
  case first =>
   have H := HC5.out
   clear HC5
   have HC9 := Aside0.mk H
   clear H
   go_upto_region 4 with (fail)
   repeat (go_quiet (fail); go_upto_region 4 with (fail))
   go_cut [15] (fun v15 wc => ∃ (kq : Nat) (x15_8 : Bool), v15 = .bool x15_8 ∧ Aside0 (caulkerlaw01_SpanPairs.j0 kq 0 x15_8 a0_0 a0_1 a1_0 a1_1 = some r) ∧ Aside0 (kq ≤ k) ∧ Aside0 (wc.heap[gb213]? = some (.cells #[.int .i64 a0_0, .int .i64 a0_1] 24 (0, 0))) ∧ Aside0 (wc.heap[gb214]? = some (.cells #[.int .i64 a1_0, .int .i64 a1_1] 24 (0, 0))) ∧ Aside0 (Below w.heap.size w wc))
   case first =>
    have H := HC9.out
    clear HC9
    by_cases c10 : a0_0 < a1_0
    ·rw [if_pos c10] at H
     have c10b0 : decide (a0_0 < a1_0) = true := decide_eq_true c10
     clear c10
     (first | rw [c10b0] | (simp only [i64_w, i32_w]; rw [c10b0]) | skip)
     have H' := Aside0.mk H
     clear H
     have hnb11 := NB213_214.out
     have hnc11 := NB214_213.out
     have hcz12_0 : w8.cell? ⟨gb213, 0, none⟩ = some (.int .i64 a0_0) := (blk_cell BK213.out 0).trans rfl
     have hcz12_1 : w8.cell? ⟨gb213, 1, none⟩ = some (.int .i64 a0_1) := (blk_cell BK213.out 1).trans rfl
     have hfz12_0 := blk_frozen BK213.out 0
     have hfz12_1 := blk_frozen BK213.out 1
     have hcz13_0 : w8.cell? ⟨gb214, 0, none⟩ = some (.int .i64 a1_0) := (blk_cell BK214.out 0).trans rfl
     have hcz13_1 : w8.cell? ⟨gb214, 1, none⟩ = some (.int .i64 a1_1) := (blk_cell BK214.out 1).trans rfl
     have hfz13_0 := blk_frozen BK214.out 0
     have hfz13_1 := blk_frozen BK214.out 1
     go_wp2
     repeat (go_quiet (fail); try go_wp2)
     go_meet
     case rel => exact ⟨_, (true), (by first | rfl | (simp; done) | (simp [*]; done)), H', ⟨by first | omega | exact Nat.le_refl _⟩, ⟨by (with_reducible repeat (first | refine blk_drewN ?_ _ | refine blk_drew ?_ | refine blk_alloc ?_ _)); exact BK213.out⟩, ⟨by (with_reducible repeat (first | refine blk_drewN ?_ _ | refine blk_drew ?_ | refine blk_alloc ?_ _)); exact BK214.out⟩, ⟨pxb HB⟩⟩
    ·rw [if_neg c10] at H
     have c10b0 : decide (a0_0 < a1_0) = false := decide_eq_false c10
     clear c10
     (first | rw [c10b0] | (simp only [i64_w, i32_w]; rw [c10b0]) | skip)
     by_cases c14 : a0_0 = a1_0
     ·rw [if_pos c14] at H
      have c14b0 : (a0_0 == a1_0) = true := beq_iff_eq.mpr c14
      have c14b1 : (a0_0 != a1_0) = false := bne_eq_false_iff_eq.mpr c14
      clear c14
      have H' := Aside0.mk H
      clear H
      have hnb15 := NB213_214.out
      have hnc15 := NB214_213.out
      have hcz16_0 : w8.cell? ⟨gb213, 0, none⟩ = some (.int .i64 a0_0) := (blk_cell BK213.out 0).trans rfl
      have hcz16_1 : w8.cell? ⟨gb213, 1, none⟩ = some (.int .i64 a0_1) := (blk_cell BK213.out 1).trans rfl
      have hfz16_0 := blk_frozen BK213.out 0
      have hfz16_1 := blk_frozen BK213.out 1
      have hcz17_0 : w8.cell? ⟨gb214, 0, none⟩ = some (.int .i64 a1_0) := (blk_cell BK214.out 0).trans rfl
      have hcz17_1 : w8.cell? ⟨gb214, 1, none⟩ = some (.int .i64 a1_1) := (blk_cell BK214.out 1).trans rfl
      have hfz17_0 := blk_frozen BK214.out 0
      have hfz17_1 := blk_frozen BK214.out 1
      go_wp2
      repeat (go_quiet (fail); try go_wp2)
      go_meet
      case rel => exact ⟨_, (decide (a0_1 < a1_1)), (by first | rfl | (simp; done) | (simp [*]; done)), H', ⟨by first | omega | exact Nat.le_refl _⟩, ⟨by (with_reducible repeat (first | refine blk_drewN ?_ _ | refine blk_drew ?_ | refine blk_alloc ?_ _)); exact BK213.out⟩, ⟨by (with_reducible repeat (first | refine blk_drewN ?_ _ | refine blk_drew ?_ | refine blk_alloc ?_ _)); exact BK214.out⟩, ⟨pxb HB⟩⟩
     ·rw [if_neg c14] at H
      have c14b0 : (a0_0 == a1_0) = false := beq_eq_false_iff_ne.mpr c14
      have c14b1 : (a0_0 != a1_0) = true := bne_iff_ne.mpr c14
      have H' := Aside0.mk H
      clear H
      have hnb18 := NB213_214.out
      have hnc18 := NB214_213.out
      have hcz19_0 : w8.cell? ⟨gb213, 0, none⟩ = some (.int .i64 a0_0) := (blk_cell BK213.out 0).trans rfl
      have hcz19_1 : w8.cell? ⟨gb213, 1, none⟩ = some (.int .i64 a0_1) := (blk_cell BK213.out 1).trans rfl
      have hfz19_0 := blk_frozen BK213.out 0
      have hfz19_1 := blk_frozen BK213.out 1
      have hcz20_0 : w8.cell? ⟨gb214, 0, none⟩ = some (.int .i64 a1_0) := (blk_cell BK214.out 0).trans rfl
      have hcz20_1 : w8.cell? ⟨gb214, 1, none⟩ = some (.int .i64 a1_1) := (blk_cell BK214.out 1).trans rfl
      have hfz20_0 := blk_frozen BK214.out 0
      have hfz20_1 := blk_frozen BK214.out 1
      go_wp2
      repeat (go_quiet (fail); try go_wp2)
      go_meet
      case rel => exact ⟨_, (false), (by first | rfl | (simp; done) | (simp [*]; done)), H', ⟨by first | omega | exact Nat.le_refl _⟩, ⟨by (with_reducible repeat (first | refine blk_drewN ?_ _ | refine blk_drew ?_ | refine blk_alloc ?_ _)); exact BK213.out⟩, ⟨by (with_reducible repeat (first | refine blk_drewN ?_ _ | refine blk_drew ?_ | refine blk_alloc ?_ _)); exact BK214.out⟩, ⟨pxb HB⟩⟩
   case rest => as_aux_lemma =>
    clear HC9
    try clear c1
    try clear p2
    try clear c4
    try clear c7
    try clear c10
    try clear c10b0
    try clear c11
    try clear c14
    try clear c14b0
    try clear c14b1
    try clear c15
    try clear c18
    try clear hcz12_0
    try clear hcz12_1
    try clear hcz13_0
    try clear hcz13_1
    try clear hcz16_0
    try clear hcz16_1
    try clear hcz17_0
    try clear hcz17_1
    try clear hcz19_0
    try clear hcz19_1
    try clear hcz20_0
    try clear hcz20_1
    try clear hfz12_0
    try clear hfz12_1
    try clear hfz13_0
    try clear hfz13_1
    try clear hfz16_0
    try clear hfz16_1
    try clear hfz17_0
    try clear hfz17_1
    try clear hfz19_0
    try clear hfz19_1
    try clear hfz20_0
    try clear hfz20_1
    obtain ⟨kq, x15_8, rfl, HA, HJ8, BK213, BK214, HB⟩ := hcut
    cases kq with
    | zero => exact absurd HA.out (by simp [caulkerlaw01_SpanPairs.j0])
    | succ kj8 =>
     have H := HA.out
     clear HA
     simp only [caulkerlaw01_SpanPairs.j0] at H
     by_cases c21 : x15_8 = true
     ·subst c21
      have H1 : (caulkerlaw01_SpanPairs.j1 kj8 (-1) a0_0 a0_1 a1_0 a1_1) = some r := by rw [if_pos rfl] at H; exact H
      clear H
      have H := H1
      clear H1
      have H' := Aside0.mk H
      clear H
      go_wp2
      repeat (go_quiet (fail); try go_wp2)
      go_meet
      case rel => exact ⟨_, ((-1)), (by first | rfl | (simp; done) | (simp [*]; done)), H', ⟨by have := HJ8.out; first | omega | exact Nat.le_refl _⟩, ⟨by (with_reducible repeat (first | refine blk_drewN ?_ _ | refine blk_drew ?_ | refine blk_alloc ?_ _)); exact BK213.out⟩, ⟨by (with_reducible repeat (first | refine blk_drewN ?_ _ | refine blk_drew ?_ | refine blk_alloc ?_ _)); exact BK214.out⟩, ⟨pxb HB⟩⟩
     ·replace c21 := Bool.eq_false_iff.mpr c21
      subst c21
      have H1 : (if (!(a0_0 == a1_0) || (!(a0_1 == a1_1))) = true then (caulkerlaw01_SpanPairs.j1 kj8 1 a0_0 a0_1 a1_0 a1_1) else (caulkerlaw01_SpanPairs.j1 kj8 0 a0_0 a0_1 a1_0 a1_1)) = some r := by rw [if_neg (show ¬ (false = true) by decide)] at H; exact H
      clear H
      have H := H1
      clear H1
      by_cases c22 : (!(a0_0 == a1_0) || (!(a0_1 == a1_1))) = true
      ·rw [if_pos c22] at H
       have c22b0 : (!(a0_0 == a1_0) || (!(a0_1 == a1_1))) = true := c22
       clear c22
       have H' := Aside0.mk H
       clear H
       have hnb23 := NB213_214.out
       have hnc23 := NB214_213.out
       have hcz24_0 : wc.cell? ⟨gb213, 0, none⟩ = some (.int .i64 a0_0) := (blk_cell BK213.out 0).trans rfl
       have hcz24_1 : wc.cell? ⟨gb213, 1, none⟩ = some (.int .i64 a0_1) := (blk_cell BK213.out 1).trans rfl
       have hfz24_0 := blk_frozen BK213.out 0
       have hfz24_1 := blk_frozen BK213.out 1
       have hcz25_0 : wc.cell? ⟨gb214, 0, none⟩ = some (.int .i64 a1_0) := (blk_cell BK214.out 0).trans rfl
       have hcz25_1 : wc.cell? ⟨gb214, 1, none⟩ = some (.int .i64 a1_1) := (blk_cell BK214.out 1).trans rfl
       have hfz25_0 := blk_frozen BK214.out 0
       have hfz25_1 := blk_frozen BK214.out 1
       go_wp2
       repeat (go_quiet (fail); try go_wp2)
       go_meet
       case rel => exact ⟨_, (1), (by first | rfl | (simp; done) | (simp [*]; done)), H', ⟨by have := HJ8.out; first | omega | exact Nat.le_refl _⟩, ⟨by (with_reducible repeat (first | refine blk_drewN ?_ _ | refine blk_drew ?_ | refine blk_alloc ?_ _)); exact BK213.out⟩, ⟨by (with_reducible repeat (first | refine blk_drewN ?_ _ | refine blk_drew ?_ | refine blk_alloc ?_ _)); exact BK214.out⟩, ⟨pxb HB⟩⟩
      ·rw [if_neg c22] at H
       have c22b0 : (!(a0_0 == a1_0) || (!(a0_1 == a1_1))) = false := by simpa using c22
       clear c22
       have H' := Aside0.mk H
       clear H
       have hnb26 := NB213_214.out
       have hnc26 := NB214_213.out
       have hcz27_0 : wc.cell? ⟨gb213, 0, none⟩ = some (.int .i64 a0_0) := (blk_cell BK213.out 0).trans rfl
       have hcz27_1 : wc.cell? ⟨gb213, 1, none⟩ = some (.int .i64 a0_1) := (blk_cell BK213.out 1).trans rfl
       have hfz27_0 := blk_frozen BK213.out 0
       have hfz27_1 := blk_frozen BK213.out 1
       have hcz28_0 : wc.cell? ⟨gb214, 0, none⟩ = some (.int .i64 a1_0) := (blk_cell BK214.out 0).trans rfl
       have hcz28_1 : wc.cell? ⟨gb214, 1, none⟩ = some (.int .i64 a1_1) := (blk_cell BK214.out 1).trans rfl
       have hfz28_0 := blk_frozen BK214.out 0
       have hfz28_1 := blk_frozen BK214.out 1
       go_wp2
       repeat (go_quiet (fail); try go_wp2)
       go_meet
       case rel => exact ⟨_, (0), (by first | rfl | (simp; done) | (simp [*]; done)), H', ⟨by have := HJ8.out; first | omega | exact Nat.le_refl _⟩, ⟨by (with_reducible repeat (first | refine blk_drewN ?_ _ | refine blk_drew ?_ | refine blk_alloc ?_ _)); exact BK213.out⟩, ⟨by (with_reducible repeat (first | refine blk_drewN ?_ _ | refine blk_drew ?_ | refine blk_alloc ?_ _)); exact BK214.out⟩, ⟨pxb HB⟩⟩
  case rest => as_aux_lemma =>
   clear HC5
   try clear c1
   try clear c2
   try clear p2
   try clear c4
   try clear c7
   try clear c10
   try clear c10b0
   try clear c11
   try clear c14
   try clear c14b0
   try clear c14b1
   try clear c15
   try clear c18
   try clear c21
   try clear c22
   try clear c22b0
   try clear c23
   try clear c26
   try clear hcz12_0
   try clear hcz12_1
   try clear hcz13_0
   try clear hcz13_1
   try clear hcz16_0
   try clear hcz16_1
   try clear hcz17_0
   try clear hcz17_1
   try clear hcz19_0
   try clear hcz19_1
   try clear hcz20_0
   try clear hcz20_1
   try clear hcz24_0
   try clear hcz24_1
   try clear hcz25_0
   try clear hcz25_1
   try clear hcz27_0
   try clear hcz27_1
   try clear hcz28_0
   try clear hcz28_1
   try clear hfz12_0
   try clear hfz12_1
   try clear hfz13_0
   try clear hfz13_1
   try clear hfz16_0
   try clear hfz16_1
   try clear hfz17_0
   try clear hfz17_1
   try clear hfz19_0
   try clear hfz19_1
   try clear hfz20_0
   try clear hfz20_1
   try clear hfz24_0
   try clear hfz24_1
   try clear hfz25_0
   try clear hfz25_1
   try clear hfz27_0
   try clear hfz27_1
   try clear hfz28_0
   try clear hfz28_1
   try clear p2
   obtain ⟨kq, x5_4, rfl, HA, HJ4, BK213, BK214, HB⟩ := hcut
   cases kq with
   | zero => exact absurd HA.out (by simp [caulkerlaw01_SpanPairs.j1])
   | succ kj4 =>
    have H := HA.out
    clear HA
    simp only [caulkerlaw01_SpanPairs.j1] at H
    replace H := Option.bind_eq_some_iff.mp H
    obtain ⟨t216, A290, H⟩ := H
    replace H : (if ((decide (t216 < 0)) != (decide (x5_4 < 0))) = true then (caulkerlaw01_SpanPairs.j2 kj4 true a0_0 a0_1 a1_0 a1_1) else (caulkerlaw01_SpanPairs.j2 kj4 ((decide (t216 > 0)) != (decide (x5_4 > 0))) a0_0 a0_1 a1_0 a1_1)) = some r := H
    have A29 := Aside0.mk A290
    clear A290
    have HC30 := Aside0.mk H
    clear H
    have hnb31 := NB213_214.out
    have hnc31 := NB214_213.out
    have hcz32_0 : wc.cell? ⟨gb213, 0, none⟩ = some (.int .i64 a0_0) := (blk_cell BK213.out 0).trans rfl
    have hcz32_1 : wc.cell? ⟨gb213, 1, none⟩ = some (.int .i64 a0_1) := (blk_cell BK213.out 1).trans rfl
    have hfz32_0 := blk_frozen BK213.out 0
    have hfz32_1 := blk_frozen BK213.out 1
    have hcz33_0 : wc.cell? ⟨gb214, 0, none⟩ = some (.int .i64 a1_0) := (blk_cell BK214.out 0).trans rfl
    have hcz33_1 : wc.cell? ⟨gb214, 1, none⟩ = some (.int .i64 a1_1) := (blk_cell BK214.out 1).trans rfl
    have hfz33_0 := blk_frozen BK214.out 0
    have hfz33_1 := blk_frozen BK214.out 1
    go_upto_region 9 with (first | (go_at_call 24; (with_reducible refine (span_Compare.calls a0_0 a0_1 a1_0 a1_1 t216 _ A29.out).mono ?_); rintro e w34 ⟨rfl, hb⟩; have n0_ := pxk BK213 hb; have n1_ := pxk BK214 hb; have n2_ := pxs HB hb; clear BK213; clear BK214; clear HB; have BK213 := n0_; have BK214 := n1_; have HB := n2_; clear n0_ n1_ n2_; (try clear hb); (try clear hb2); (try clear hk); (try clear hi)))
    repeat (go_quiet (first | (go_at_call 24; (with_reducible refine (span_Compare.calls a0_0 a0_1 a1_0 a1_1 t216 _ A29.out).mono ?_); rintro e w34 ⟨rfl, hb⟩; have n0_ := pxk BK213 hb; have n1_ := pxk BK214 hb; have n2_ := pxs HB hb; clear BK213; clear BK214; clear HB; have BK213 := n0_; have BK214 := n1_; have HB := n2_; clear n0_ n1_ n2_; (try clear hb); (try clear hb2); (try clear hk); (try clear hi))); go_upto_region 9 with (first | (go_at_call 24; (with_reducible refine (span_Compare.calls a0_0 a0_1 a1_0 a1_1 t216 _ A29.out).mono ?_); rintro e w34 ⟨rfl, hb⟩; have n0_ := pxk BK213 hb; have n1_ := pxk BK214 hb; have n2_ := pxs HB hb; clear BK213; clear BK214; clear HB; have BK213 := n0_; have BK214 := n1_; have HB := n2_; clear n0_ n1_ n2_; (try clear hb); (try clear hb2); (try clear hk); (try clear hi))))
    (try simp only [Act.put, List.setIfInBounds_toArray, List.set_cons_zero, List.set_cons_succ])
    go_cut [53] (fun v53 wc => ∃ (kq : Nat) (x53_29 : Bool), v53 = .bool x53_29 ∧ Aside0 (caulkerlaw01_SpanPairs.j2 kq x53_29 a0_0 a0_1 a1_0 a1_1 = some r) ∧ Aside0 (kq ≤ kj4) ∧ Aside0 (wc.heap[gb213]? = some (.cells #[.int .i64 a0_0, .int .i64 a0_1] 24 (0, 0))) ∧ Aside0 (wc.heap[gb214]? = some (.cells #[.int .i64 a1_0, .int .i64 a1_1] 24 (0, 0))) ∧ Aside0 (Below w.heap.size w wc))
    case first =>
     have H := HC30.out
     clear HC30
     by_cases c35 : ((decide (t216 < 0)) != (decide (x5_4 < 0))) = true
     ·rw [if_pos c35] at H
      have c35b0 : ((decide (t216 < 0)) != (decide (x5_4 < 0))) = true := c35
      (try (have c35b1 : decide ((decide (t216 < 0)) = (decide (x5_4 < 0))) = false := by simpa using c35))
      (try (have c35b2 : ((decide (t216 < 0)) == (decide (x5_4 < 0))) = false := by simpa using c35))
      (try (have c35b3 : ¬ ((decide (t216 < 0)) = (decide (x5_4 < 0))) := by simpa using c35))
      clear c35
      (first | rw [c35b0] | (simp only [i64_w, i32_w]; rw [c35b0]) | skip)
      have H' := Aside0.mk H
      clear H
      go_wp2
      repeat (go_quiet (fail); try go_wp2)
      go_meet
      case rel => exact ⟨_, (true), (by first | rfl | (simp; done) | (simp [*]; done)), H', ⟨by have := HJ4.out; first | omega | exact Nat.le_refl _⟩, ⟨by (with_reducible repeat (first | refine blk_drewN ?_ _ | refine blk_drew ?_ | refine blk_alloc ?_ _)); exact BK213.out⟩, ⟨by (with_reducible repeat (first | refine blk_drewN ?_ _ | refine blk_drew ?_ | refine blk_alloc ?_ _)); exact BK214.out⟩, ⟨pxb HB⟩⟩
     ·rw [if_neg c35] at H
      have c35b0 : ((decide (t216 < 0)) != (decide (x5_4 < 0))) = false := by simpa using c35
      (try (have c35b1 : decide ((decide (t216 < 0)) = (decide (x5_4 < 0))) = true := by simpa using c35))
      (try (have c35b2 : ((decide (t216 < 0)) == (decide (x5_4 < 0))) = true := by simpa using c35))
      clear c35
      (first | rw [c35b0] | (simp only [i64_w, i32_w]; rw [c35b0]) | skip)
      have H' := Aside0.mk H
      clear H
      go_wp2
      repeat (go_quiet (fail); try go_wp2)
      go_meet
      case rel => exact ⟨_, (((decide (t216 > 0)) != (decide (x5_4 > 0)))), (by first | rfl | (simp; done) | (simp [*]; done)), H', ⟨by have := HJ4.out; first | omega | exact Nat.le_refl _⟩, ⟨by (with_reducible repeat (first | refine blk_drewN ?_ _ | refine blk_drew ?_ | refine blk_alloc ?_ _)); exact BK213.out⟩, ⟨by (with_reducible repeat (first | refine blk_drewN ?_ _ | refine blk_drew ?_ | refine blk_alloc ?_ _)); exact BK214.out⟩, ⟨pxb HB⟩⟩
    case rest => as_aux_lemma =>
     clear HC30
     try clear c1
     try clear c2
     try clear p2
     try clear c3
     try clear c4
     try clear c7
     try clear c10
     try clear c10b0
     try clear c11
     try clear c14
     try clear c14b0
     try clear c14b1
     try clear c15
     try clear c18
     try clear c21
     try clear c22
     try clear c22b0
     try clear c23
     try clear c26
     try clear c31
     try clear c35
     try clear c35b0
     try clear c35b1
     try clear c35b2
     try clear hcz12_0
     try clear hcz12_1
     try clear hcz13_0
     try clear hcz13_1
     try clear hcz16_0
     try clear hcz16_1
     try clear hcz17_0
     try clear hcz17_1
     try clear hcz19_0
     try clear hcz19_1
     try clear hcz20_0
     try clear hcz20_1
     try clear hcz24_0
     try clear hcz24_1
     try clear hcz25_0
     try clear hcz25_1
     try clear hcz27_0
     try clear hcz27_1
     try clear hcz28_0
     try clear hcz28_1
     try clear hcz32_0
     try clear hcz32_1
     try clear hcz33_0
     try clear hcz33_1
     try clear hfz12_0
     try clear hfz12_1
     try clear hfz13_0
     try clear hfz13_1
     try clear hfz16_0
     try clear hfz16_1
     try clear hfz17_0
     try clear hfz17_1
     try clear hfz19_0
     try clear hfz19_1
     try clear hfz20_0
     try clear hfz20_1
     try clear hfz24_0
     try clear hfz24_1
     try clear hfz25_0
     try clear hfz25_1
     try clear hfz27_0
     try clear hfz27_1
     try clear hfz28_0
     try clear hfz28_1
     try clear hfz32_0
     try clear hfz32_1
     try clear hfz33_0
     try clear hfz33_1
     try clear p2
     obtain ⟨kq, x53_29, rfl, HA, HJ29, BK213, BK214, HB⟩ := hcut
     cases kq with
     | zero => exact absurd HA.out (by simp [caulkerlaw01_SpanPairs.j2])
     | succ kj29 =>
      have H := HA.out
      clear HA
      simp only [caulkerlaw01_SpanPairs.j2] at H
      by_cases c36 : x53_29 = true
      ·subst c36
       have H1 : (some false) = some r := by rw [if_pos rfl] at H; exact H
       clear H
       have H := H1
       clear H1
       obtain rfl := Option.some.inj H
       go_wp2
       repeat (go_quiet (fail); try go_wp2)
       go_ret
       exact ⟨by first | rfl | (simp [errW_none, errW_some] <;> rfl) | (simp [*, errW_none, errW_some] <;> rfl), pxb HB⟩
      ·replace c36 := Bool.eq_false_iff.mpr c36
       subst c36
       have H1 : ((span_Meet.f kj29 a0_0 a0_1 a1_0 a1_1).bind fun bt217 => ((caulkerlaw01_may.f a0_0 a0_1).bind fun t221 => (if t221 = true then ((caulkerlaw01_may.f a1_0 a1_1).bind fun t222 => (caulkerlaw01_SpanPairs.j3 kj29 bt217.2.2 (!t222) a0_0 a0_1 a1_0 a1_1 bt217.1 bt217.2.1)) else (caulkerlaw01_SpanPairs.j3 kj29 bt217.2.2 true a0_0 a0_1 a1_0 a1_1 bt217.1 bt217.2.1)))) = some r := by rw [if_neg (show ¬ (false = true) by decide)] at H; exact H
       clear H
       have H := H1
       clear H1
       replace H := Option.bind_eq_some_iff.mp H
       obtain ⟨⟨t217, t218, t219⟩, A370, H⟩ := H
       replace H : ((caulkerlaw01_may.f a0_0 a0_1).bind fun t221 => (if t221 = true then ((caulkerlaw01_may.f a1_0 a1_1).bind fun t222 => (caulkerlaw01_SpanPairs.j3 kj29 t219 (!t222) a0_0 a0_1 a1_0 a1_1 t217 t218)) else (caulkerlaw01_SpanPairs.j3 kj29 t219 true a0_0 a0_1 a1_0 a1_1 t217 t218))) = some r := H
       have A37 := Aside0.mk A370
       clear A370
       have HC38 := Aside0.mk H
       clear H
       have hnb39 := NB213_214.out
       have hnc39 := NB214_213.out
       have hcz40_0 : wc.cell? ⟨gb213, 0, none⟩ = some (.int .i64 a0_0) := (blk_cell BK213.out 0).trans rfl
       have hcz40_1 : wc.cell? ⟨gb213, 1, none⟩ = some (.int .i64 a0_1) := (blk_cell BK213.out 1).trans rfl
       have hfz40_0 := blk_frozen BK213.out 0
       have hfz40_1 := blk_frozen BK213.out 1
       have hcz41_0 : wc.cell? ⟨gb214, 0, none⟩ = some (.int .i64 a1_0) := (blk_cell BK214.out 0).trans rfl
       have hcz41_1 : wc.cell? ⟨gb214, 1, none⟩ = some (.int .i64 a1_1) := (blk_cell BK214.out 1).trans rfl
       have hfz41_0 := blk_frozen BK214.out 0
       have hfz41_1 := blk_frozen BK214.out 1
       go_upto_region 12 with (first | (go_at_call 25; (with_reducible refine (span_Meet.calls kj29 a0_0 a0_1 a1_0 a1_1 t217 t218 t219 _ A37.out).mono ?_); rintro e w42 ⟨rfl, hb⟩; have n0_ := pxk BK213 hb; have n1_ := pxk BK214 hb; have n2_ := pxs HB hb; clear BK213; clear BK214; clear HB; have BK213 := n0_; have BK214 := n1_; have HB := n2_; clear n0_ n1_ n2_; (try clear hb); (try clear hb2); (try clear hk); (try clear hi)) | ((with_reducible refine gate_dst (N := 7) rfl ?_); refine box_event ?hg (N := 7) ?hd (cs := #[.int .i64 0, .int .i64 0]) (t := 24) ?hr ?_; (case hd => rfl); (case hg => rfl); (case hr => first | (go_simp; done) | (go_simp; rfl)); intro gb220 hg w43 hbox hb; have n0_ := pxk BK213 hb; have n1_ := pxk BK214 hb; have n2_ := pxs HB hb; have n3_ := Aside0.mk (hbox); have n4_ := Aside0.mk ((by rw [hg]; exact (below_size (pxb HB)) : w.heap.size ≤ gb220)); have n5_ := Aside0.mk ((by rw [hg]; exact (below_size (pxb HB)) : w.heap.size ≤ gb220)); have n6_ := Aside0.mk ((by rw [hg]; exact Nat.ne_of_lt (blk_lt (g := gb213) (o := .cells #[.int .i64 a0_0, .int .i64 a0_1] 24 (0, 0)) (by (with_reducible repeat (first | refine blk_drewN ?_ _ | refine blk_drew ?_ | refine blk_alloc ?_ _)); exact BK213.out)) : gb213 ≠ gb220)); have n7_ := Aside0.mk ((by rw [hg]; exact Nat.ne_of_gt (blk_lt (g := gb213) (o := .cells #[.int .i64 a0_0, .int .i64 a0_1] 24 (0, 0)) (by (with_reducible repeat (first | refine blk_drewN ?_ _ | refine blk_drew ?_ | refine blk_alloc ?_ _)); exact BK213.out)) : gb220 ≠ gb213)); have n8_ := Aside0.mk ((by rw [hg]; exact Nat.ne_of_lt (blk_lt (g := gb214) (o := .cells #[.int .i64 a1_0, .int .i64 a1_1] 24 (0, 0)) (by (with_reducible repeat (first | refine blk_drewN ?_ _ | refine blk_drew ?_ | refine blk_alloc ?_ _)); exact BK214.out)) : gb214 ≠ gb220)); have n9_ := Aside0.mk ((by rw [hg]; exact Nat.ne_of_gt (blk_lt (g := gb214) (o := .cells #[.int .i64 a1_0, .int .i64 a1_1] 24 (0, 0)) (by (with_reducible repeat (first | refine blk_drewN ?_ _ | refine blk_drew ?_ | refine blk_alloc ?_ _)); exact BK214.out)) : gb220 ≠ gb214)); clear BK213; clear BK214; clear HB; have BK213 := n0_; have BK214 := n1_; have HB := n2_; have BK220 := n3_; have GW220 := n4_; have GE220 := n5_; have NB213_220 := n6_; have NB220_213 := n7_; have NB214_220 := n8_; have NB220_214 := n9_; clear n0_ n1_ n2_ n3_ n4_ n5_ n6_ n7_ n8_ n9_; clear hb hbox hg; have hnb44 := NB220_213.out; have hnc44 := NB213_220.out; have hnb45 := NB220_214.out; have hnc45 := NB214_220.out; have hcz46_0 : w43.cell? ⟨gb220, 0, none⟩ = some (.int .i64 0) := (blk_cell BK220.out 0).trans rfl; have hcz46_1 : w43.cell? ⟨gb220, 1, none⟩ = some (.int .i64 0) := (blk_cell BK220.out 1).trans rfl; have hfz46_0 := blk_frozen BK220.out 0; have hfz46_1 := blk_frozen BK220.out 1))
       repeat (go_quiet (first | (go_at_call 25; (with_reducible refine (span_Meet.calls kj29 a0_0 a0_1 a1_0 a1_1 t217 t218 t219 _ A37.out).mono ?_); rintro e w42 ⟨rfl, hb⟩; have n0_ := pxk BK213 hb; have n1_ := pxk BK214 hb; have n2_ := pxs HB hb; clear BK213; clear BK214; clear HB; have BK213 := n0_; have BK214 := n1_; have HB := n2_; clear n0_ n1_ n2_; (try clear hb); (try clear hb2); (try clear hk); (try clear hi)) | ((with_reducible refine gate_dst (N := 7) rfl ?_); refine box_event ?hg (N := 7) ?hd (cs := #[.int .i64 0, .int .i64 0]) (t := 24) ?hr ?_; (case hd => rfl); (case hg => rfl); (case hr => first | (go_simp; done) | (go_simp; rfl)); intro gb220 hg w43 hbox hb; have n0_ := pxk BK213 hb; have n1_ := pxk BK214 hb; have n2_ := pxs HB hb; have n3_ := Aside0.mk (hbox); have n4_ := Aside0.mk ((by rw [hg]; exact (below_size (pxb HB)) : w.heap.size ≤ gb220)); have n5_ := Aside0.mk ((by rw [hg]; exact (below_size (pxb HB)) : w.heap.size ≤ gb220)); have n6_ := Aside0.mk ((by rw [hg]; exact Nat.ne_of_lt (blk_lt (g := gb213) (o := .cells #[.int .i64 a0_0, .int .i64 a0_1] 24 (0, 0)) (by (with_reducible repeat (first | refine blk_drewN ?_ _ | refine blk_drew ?_ | refine blk_alloc ?_ _)); exact BK213.out)) : gb213 ≠ gb220)); have n7_ := Aside0.mk ((by rw [hg]; exact Nat.ne_of_gt (blk_lt (g := gb213) (o := .cells #[.int .i64 a0_0, .int .i64 a0_1] 24 (0, 0)) (by (with_reducible repeat (first | refine blk_drewN ?_ _ | refine blk_drew ?_ | refine blk_alloc ?_ _)); exact BK213.out)) : gb220 ≠ gb213)); have n8_ := Aside0.mk ((by rw [hg]; exact Nat.ne_of_lt (blk_lt (g := gb214) (o := .cells #[.int .i64 a1_0, .int .i64 a1_1] 24 (0, 0)) (by (with_reducible repeat (first | refine blk_drewN ?_ _ | refine blk_drew ?_ | refine blk_alloc ?_ _)); exact BK214.out)) : gb214 ≠ gb220)); have n9_ := Aside0.mk ((by rw [hg]; exact Nat.ne_of_gt (blk_lt (g := gb214) (o := .cells #[.int .i64 a1_0, .int .i64 a1_1] 24 (0, 0)) (by (with_reducible repeat (first | refine blk_drewN ?_ _ | refine blk_drew ?_ | refine blk_alloc ?_ _)); exact BK214.out)) : gb220 ≠ gb214)); clear BK213; clear BK214; clear HB; have BK213 := n0_; have BK214 := n1_; have HB := n2_; have BK220 := n3_; have GW220 := n4_; have GE220 := n5_; have NB213_220 := n6_; have NB220_213 := n7_; have NB214_220 := n8_; have NB220_214 := n9_; clear n0_ n1_ n2_ n3_ n4_ n5_ n6_ n7_ n8_ n9_; clear hb hbox hg; have hnb44 := NB220_213.out; have hnc44 := NB213_220.out; have hnb45 := NB220_214.out; have hnc45 := NB214_220.out; have hcz46_0 : w43.cell? ⟨gb220, 0, none⟩ = some (.int .i64 0) := (blk_cell BK220.out 0).trans rfl; have hcz46_1 : w43.cell? ⟨gb220, 1, none⟩ = some (.int .i64 0) := (blk_cell BK220.out 1).trans rfl; have hfz46_0 := blk_frozen BK220.out 0; have hfz46_1 := blk_frozen BK220.out 1)); go_upto_region 12 with (first | (go_at_call 25; (with_reducible refine (span_Meet.calls kj29 a0_0 a0_1 a1_0 a1_1 t217 t218 t219 _ A37.out).mono ?_); rintro e w42 ⟨rfl, hb⟩; have n0_ := pxk BK213 hb; have n1_ := pxk BK214 hb; have n2_ := pxs HB hb; clear BK213; clear BK214; clear HB; have BK213 := n0_; have BK214 := n1_; have HB := n2_; clear n0_ n1_ n2_; (try clear hb); (try clear hb2); (try clear hk); (try clear hi)) | ((with_reducible refine gate_dst (N := 7) rfl ?_); refine box_event ?hg (N := 7) ?hd (cs := #[.int .i64 0, .int .i64 0]) (t := 24) ?hr ?_; (case hd => rfl); (case hg => rfl); (case hr => first | (go_simp; done) | (go_simp; rfl)); intro gb220 hg w43 hbox hb; have n0_ := pxk BK213 hb; have n1_ := pxk BK214 hb; have n2_ := pxs HB hb; have n3_ := Aside0.mk (hbox); have n4_ := Aside0.mk ((by rw [hg]; exact (below_size (pxb HB)) : w.heap.size ≤ gb220)); have n5_ := Aside0.mk ((by rw [hg]; exact (below_size (pxb HB)) : w.heap.size ≤ gb220)); have n6_ := Aside0.mk ((by rw [hg]; exact Nat.ne_of_lt (blk_lt (g := gb213) (o := .cells #[.int .i64 a0_0, .int .i64 a0_1] 24 (0, 0)) (by (with_reducible repeat (first | refine blk_drewN ?_ _ | refine blk_drew ?_ | refine blk_alloc ?_ _)); exact BK213.out)) : gb213 ≠ gb220)); have n7_ := Aside0.mk ((by rw [hg]; exact Nat.ne_of_gt (blk_lt (g := gb213) (o := .cells #[.int .i64 a0_0, .int .i64 a0_1] 24 (0, 0)) (by (with_reducible repeat (first | refine blk_drewN ?_ _ | refine blk_drew ?_ | refine blk_alloc ?_ _)); exact BK213.out)) : gb220 ≠ gb213)); have n8_ := Aside0.mk ((by rw [hg]; exact Nat.ne_of_lt (blk_lt (g := gb214) (o := .cells #[.int .i64 a1_0, .int .i64 a1_1] 24 (0, 0)) (by (with_reducible repeat (first | refine blk_drewN ?_ _ | refine blk_drew ?_ | refine blk_alloc ?_ _)); exact BK214.out)) : gb214 ≠ gb220)); have n9_ := Aside0.mk ((by rw [hg]; exact Nat.ne_of_gt (blk_lt (g := gb214) (o := .cells #[.int .i64 a1_0, .int .i64 a1_1] 24 (0, 0)) (by (with_reducible repeat (first | refine blk_drewN ?_ _ | refine blk_drew ?_ | refine blk_alloc ?_ _)); exact BK214.out)) : gb220 ≠ gb214)); clear BK213; clear BK214; clear HB; have BK213 := n0_; have BK214 := n1_; have HB := n2_; have BK220 := n3_; have GW220 := n4_; have GE220 := n5_; have NB213_220 := n6_; have NB220_213 := n7_; have NB214_220 := n8_; have NB220_214 := n9_; clear n0_ n1_ n2_ n3_ n4_ n5_ n6_ n7_ n8_ n9_; clear hb hbox hg; have hnb44 := NB220_213.out; have hnc44 := NB213_220.out; have hnb45 := NB220_214.out; have hnc45 := NB214_220.out; have hcz46_0 : w43.cell? ⟨gb220, 0, none⟩ = some (.int .i64 0) := (blk_cell BK220.out 0).trans rfl; have hcz46_1 : w43.cell? ⟨gb220, 1, none⟩ = some (.int .i64 0) := (blk_cell BK220.out 1).trans rfl; have hfz46_0 := blk_frozen BK220.out 0; have hfz46_1 := blk_frozen BK220.out 1)))
       (try simp only [Act.put, List.setIfInBounds_toArray, List.set_cons_zero, List.set_cons_succ])
       go_cut [67] (fun v67 wc => ∃ (kq : Nat) (x67_37 : Bool), v67 = .bool x67_37 ∧ Aside0 (caulkerlaw01_SpanPairs.j3 kq t219 x67_37 a0_0 a0_1 a1_0 a1_1 t217 t218 = some r) ∧ Aside0 (kq ≤ kj29) ∧ Aside0 (wc.heap[gb213]? = some (.cells #[.int .i64 a0_0, .int .i64 a0_1] 24 (0, 0))) ∧ Aside0 (wc.heap[gb214]? = some (.cells #[.int .i64 a1_0, .int .i64 a1_1] 24 (0, 0))) ∧ Aside0 (wc.heap[gb220]? = some (.cells #[.int .i64 t217, .int .i64 t218] 24 (0, 0))) ∧ Aside0 (Below w.heap.size w wc))
       case first =>
        have H := HC38.out
        clear HC38
        replace H := Option.bind_eq_some_iff.mp H
        obtain ⟨t221, A470, H⟩ := H
        replace H : (if t221 = true then ((caulkerlaw01_may.f a1_0 a1_1).bind fun t222 => (caulkerlaw01_SpanPairs.j3 kj29 t219 (!t222) a0_0 a0_1 a1_0 a1_1 t217 t218)) else (caulkerlaw01_SpanPairs.j3 kj29 t219 true a0_0 a0_1 a1_0 a1_1 t217 t218)) = some r := H
        have A47 := Aside0.mk A470
        clear A470
        by_cases c48 : t221 = true
        ·subst c48
         have H1 : ((caulkerlaw01_may.f a1_0 a1_1).bind fun t222 => (caulkerlaw01_SpanPairs.j3 kj29 t219 (!t222) a0_0 a0_1 a1_0 a1_1 t217 t218)) = some r := by rw [if_pos rfl] at H; exact H
         clear H
         have H := H1
         clear H1
         replace H := Option.bind_eq_some_iff.mp H
         obtain ⟨t222, A490, H⟩ := H
         replace H : (caulkerlaw01_SpanPairs.j3 kj29 t219 (!t222) a0_0 a0_1 a1_0 a1_1 t217 t218) = some r := H
         have A49 := Aside0.mk A490
         clear A490
         have H' := Aside0.mk H
         clear H
         have hnb50 := NB213_214.out
         have hnc50 := NB214_213.out
         have hnb51 := NB213_220.out
         have hnc51 := NB220_213.out
         have hcz52_0 : w43.cell? ⟨gb213, 0, none⟩ = some (.int .i64 a0_0) := (blk_cell BK213.out 0).trans rfl
         have hcz52_1 : w43.cell? ⟨gb213, 1, none⟩ = some (.int .i64 a0_1) := (blk_cell BK213.out 1).trans rfl
         have hfz52_0 := blk_frozen BK213.out 0
         have hfz52_1 := blk_frozen BK213.out 1
         go_wp2_with (first | (go_at_call 19; (with_reducible refine (caulkerlaw01_may.calls a0_0 a0_1 true _ A47.out).mono ?_); rintro e w53 ⟨rfl, hb⟩; have n0_ := Aside0.mk (blk_below (g := gb213) (o := .cells #[.int .i64 a0_0, .int .i64 a0_1] 24 (0, 0)) (by (with_reducible repeat (first | refine blk_drewN ?_ _ | refine blk_drew ?_ | refine blk_alloc ?_ _)); refine blk_far ?_ NB213_220.out _; (with_reducible repeat (first | refine blk_drewN ?_ _ | refine blk_drew ?_ | refine blk_alloc ?_ _)); refine blk_far ?_ NB213_220.out _; (with_reducible repeat (first | refine blk_drewN ?_ _ | refine blk_drew ?_ | refine blk_alloc ?_ _)); exact BK213.out) hb); have n1_ := Aside0.mk (blk_below (g := gb214) (o := .cells #[.int .i64 a1_0, .int .i64 a1_1] 24 (0, 0)) (by (with_reducible repeat (first | refine blk_drewN ?_ _ | refine blk_drew ?_ | refine blk_alloc ?_ _)); refine blk_far ?_ NB214_220.out _; (with_reducible repeat (first | refine blk_drewN ?_ _ | refine blk_drew ?_ | refine blk_alloc ?_ _)); refine blk_far ?_ NB214_220.out _; (with_reducible repeat (first | refine blk_drewN ?_ _ | refine blk_drew ?_ | refine blk_alloc ?_ _)); exact BK214.out) hb); have n2_ := Aside0.mk (blk_below (g := gb220) (o := .cells #[.int .i64 t217, .int .i64 t218] 24 (0, 0)) (by (with_reducible repeat (first | refine blk_drewN ?_ _ | refine blk_drew ?_ | refine blk_alloc ?_ _)); refine blk_put (cs := #[.int .i64 t217, .int .i64 0]) ?_ 1 _ rfl; (with_reducible repeat (first | refine blk_drewN ?_ _ | refine blk_drew ?_ | refine blk_alloc ?_ _)); refine blk_put (cs := #[.int .i64 0, .int .i64 0]) ?_ 0 _ rfl; (with_reducible repeat (first | refine blk_drewN ?_ _ | refine blk_drew ?_ | refine blk_alloc ?_ _)); exact BK220.out) hb); have n3_ := pxs HB hb; clear BK213; clear BK214; clear BK220; clear HB; have BK213 := n0_; have BK214 := n1_; have BK220 := n2_; have HB := n3_; clear n0_ n1_ n2_ n3_; (try clear hb); (try clear hb2); (try clear hk); (try clear hi); have hnb54 := NB214_220.out; have hnc54 := NB220_214.out; have hcz55_0 : w53.cell? ⟨gb214, 0, none⟩ = some (.int .i64 a1_0) := (blk_cell BK214.out 0).trans rfl; have hcz55_1 : w53.cell? ⟨gb214, 1, none⟩ = some (.int .i64 a1_1) := (blk_cell BK214.out 1).trans rfl; have hfz55_0 := blk_frozen BK214.out 0; have hfz55_1 := blk_frozen BK214.out 1) | (go_at_call 19; (with_reducible refine (caulkerlaw01_may.calls a1_0 a1_1 t222 _ A49.out).mono ?_); rintro e w56 ⟨rfl, hb⟩; have n0_ := pxk BK213 hb; have n1_ := pxk BK214 hb; have n2_ := pxk BK220 hb; have n3_ := pxs HB hb; clear BK213; clear BK214; clear BK220; clear HB; have BK213 := n0_; have BK214 := n1_; have BK220 := n2_; have HB := n3_; clear n0_ n1_ n2_ n3_; (try clear hb); (try clear hb2); (try clear hk); (try clear hi)))
         repeat (go_quiet (first | (go_at_call 19; (with_reducible refine (caulkerlaw01_may.calls a0_0 a0_1 true _ A47.out).mono ?_); rintro e w53 ⟨rfl, hb⟩; have n0_ := Aside0.mk (blk_below (g := gb213) (o := .cells #[.int .i64 a0_0, .int .i64 a0_1] 24 (0, 0)) (by (with_reducible repeat (first | refine blk_drewN ?_ _ | refine blk_drew ?_ | refine blk_alloc ?_ _)); refine blk_far ?_ NB213_220.out _; (with_reducible repeat (first | refine blk_drewN ?_ _ | refine blk_drew ?_ | refine blk_alloc ?_ _)); refine blk_far ?_ NB213_220.out _; (with_reducible repeat (first | refine blk_drewN ?_ _ | refine blk_drew ?_ | refine blk_alloc ?_ _)); exact BK213.out) hb); have n1_ := Aside0.mk (blk_below (g := gb214) (o := .cells #[.int .i64 a1_0, .int .i64 a1_1] 24 (0, 0)) (by (with_reducible repeat (first | refine blk_drewN ?_ _ | refine blk_drew ?_ | refine blk_alloc ?_ _)); refine blk_far ?_ NB214_220.out _; (with_reducible repeat (first | refine blk_drewN ?_ _ | refine blk_drew ?_ | refine blk_alloc ?_ _)); refine blk_far ?_ NB214_220.out _; (with_reducible repeat (first | refine blk_drewN ?_ _ | refine blk_drew ?_ | refine blk_alloc ?_ _)); exact BK214.out) hb); have n2_ := Aside0.mk (blk_below (g := gb220) (o := .cells #[.int .i64 t217, .int .i64 t218] 24 (0, 0)) (by (with_reducible repeat (first | refine blk_drewN ?_ _ | refine blk_drew ?_ | refine blk_alloc ?_ _)); refine blk_put (cs := #[.int .i64 t217, .int .i64 0]) ?_ 1 _ rfl; (with_reducible repeat (first | refine blk_drewN ?_ _ | refine blk_drew ?_ | refine blk_alloc ?_ _)); refine blk_put (cs := #[.int .i64 0, .int .i64 0]) ?_ 0 _ rfl; (with_reducible repeat (first | refine blk_drewN ?_ _ | refine blk_drew ?_ | refine blk_alloc ?_ _)); exact BK220.out) hb); have n3_ := pxs HB hb; clear BK213; clear BK214; clear BK220; clear HB; have BK213 := n0_; have BK214 := n1_; have BK220 := n2_; have HB := n3_; clear n0_ n1_ n2_ n3_; (try clear hb); (try clear hb2); (try clear hk); (try clear hi); have hnb54 := NB214_220.out; have hnc54 := NB220_214.out; have hcz55_0 : w53.cell? ⟨gb214, 0, none⟩ = some (.int .i64 a1_0) := (blk_cell BK214.out 0).trans rfl; have hcz55_1 : w53.cell? ⟨gb214, 1, none⟩ = some (.int .i64 a1_1) := (blk_cell BK214.out 1).trans rfl; have hfz55_0 := blk_frozen BK214.out 0; have hfz55_1 := blk_frozen BK214.out 1) | (go_at_call 19; (with_reducible refine (caulkerlaw01_may.calls a1_0 a1_1 t222 _ A49.out).mono ?_); rintro e w56 ⟨rfl, hb⟩; have n0_ := pxk BK213 hb; have n1_ := pxk BK214 hb; have n2_ := pxk BK220 hb; have n3_ := pxs HB hb; clear BK213; clear BK214; clear BK220; clear HB; have BK213 := n0_; have BK214 := n1_; have BK220 := n2_; have HB := n3_; clear n0_ n1_ n2_ n3_; (try clear hb); (try clear hb2); (try clear hk); (try clear hi))); try go_wp2_with (first | (go_at_call 19; (with_reducible refine (caulkerlaw01_may.calls a0_0 a0_1 true _ A47.out).mono ?_); rintro e w53 ⟨rfl, hb⟩; have n0_ := Aside0.mk (blk_below (g := gb213) (o := .cells #[.int .i64 a0_0, .int .i64 a0_1] 24 (0, 0)) (by (with_reducible repeat (first | refine blk_drewN ?_ _ | refine blk_drew ?_ | refine blk_alloc ?_ _)); refine blk_far ?_ NB213_220.out _; (with_reducible repeat (first | refine blk_drewN ?_ _ | refine blk_drew ?_ | refine blk_alloc ?_ _)); refine blk_far ?_ NB213_220.out _; (with_reducible repeat (first | refine blk_drewN ?_ _ | refine blk_drew ?_ | refine blk_alloc ?_ _)); exact BK213.out) hb); have n1_ := Aside0.mk (blk_below (g := gb214) (o := .cells #[.int .i64 a1_0, .int .i64 a1_1] 24 (0, 0)) (by (with_reducible repeat (first | refine blk_drewN ?_ _ | refine blk_drew ?_ | refine blk_alloc ?_ _)); refine blk_far ?_ NB214_220.out _; (with_reducible repeat (first | refine blk_drewN ?_ _ | refine blk_drew ?_ | refine blk_alloc ?_ _)); refine blk_far ?_ NB214_220.out _; (with_reducible repeat (first | refine blk_drewN ?_ _ | refine blk_drew ?_ | refine blk_alloc ?_ _)); exact BK214.out) hb); have n2_ := Aside0.mk (blk_below (g := gb220) (o := .cells #[.int .i64 t217, .int .i64 t218] 24 (0, 0)) (by (with_reducible repeat (first | refine blk_drewN ?_ _ | refine blk_drew ?_ | refine blk_alloc ?_ _)); refine blk_put (cs := #[.int .i64 t217, .int .i64 0]) ?_ 1 _ rfl; (with_reducible repeat (first | refine blk_drewN ?_ _ | refine blk_drew ?_ | refine blk_alloc ?_ _)); refine blk_put (cs := #[.int .i64 0, .int .i64 0]) ?_ 0 _ rfl; (with_reducible repeat (first | refine blk_drewN ?_ _ | refine blk_drew ?_ | refine blk_alloc ?_ _)); exact BK220.out) hb); have n3_ := pxs HB hb; clear BK213; clear BK214; clear BK220; clear HB; have BK213 := n0_; have BK214 := n1_; have BK220 := n2_; have HB := n3_; clear n0_ n1_ n2_ n3_; (try clear hb); (try clear hb2); (try clear hk); (try clear hi); have hnb54 := NB214_220.out; have hnc54 := NB220_214.out; have hcz55_0 : w53.cell? ⟨gb214, 0, none⟩ = some (.int .i64 a1_0) := (blk_cell BK214.out 0).trans rfl; have hcz55_1 : w53.cell? ⟨gb214, 1, none⟩ = some (.int .i64 a1_1) := (blk_cell BK214.out 1).trans rfl; have hfz55_0 := blk_frozen BK214.out 0; have hfz55_1 := blk_frozen BK214.out 1) | (go_at_call 19; (with_reducible refine (caulkerlaw01_may.calls a1_0 a1_1 t222 _ A49.out).mono ?_); rintro e w56 ⟨rfl, hb⟩; have n0_ := pxk BK213 hb; have n1_ := pxk BK214 hb; have n2_ := pxk BK220 hb; have n3_ := pxs HB hb; clear BK213; clear BK214; clear BK220; clear HB; have BK213 := n0_; have BK214 := n1_; have BK220 := n2_; have HB := n3_; clear n0_ n1_ n2_ n3_; (try clear hb); (try clear hb2); (try clear hk); (try clear hi))))
         go_meet
         case rel => exact ⟨_, (!t222), (by first | rfl | (simp; done) | (simp [*]; done)), H', ⟨by have := HJ4.out; have := HJ29.out; first | omega | exact Nat.le_refl _⟩, ⟨by (with_reducible repeat (first | refine blk_drewN ?_ _ | refine blk_drew ?_ | refine blk_alloc ?_ _)); exact BK213.out⟩, ⟨by (with_reducible repeat (first | refine blk_drewN ?_ _ | refine blk_drew ?_ | refine blk_alloc ?_ _)); exact BK214.out⟩, ⟨by (with_reducible repeat (first | refine blk_drewN ?_ _ | refine blk_drew ?_ | refine blk_alloc ?_ _)); exact BK220.out⟩, ⟨pxb HB⟩⟩
        ·replace c48 := Bool.eq_false_iff.mpr c48
         subst c48
         have H1 : (caulkerlaw01_SpanPairs.j3 kj29 t219 true a0_0 a0_1 a1_0 a1_1 t217 t218) = some r := by rw [if_neg (show ¬ (false = true) by decide)] at H; exact H
         clear H
         have H := H1
         clear H1
         have H' := Aside0.mk H
         clear H
         have hnb57 := NB213_214.out
         have hnc57 := NB214_213.out
         have hnb58 := NB213_220.out
         have hnc58 := NB220_213.out
         have hcz59_0 : w43.cell? ⟨gb213, 0, none⟩ = some (.int .i64 a0_0) := (blk_cell BK213.out 0).trans rfl
         have hcz59_1 : w43.cell? ⟨gb213, 1, none⟩ = some (.int .i64 a0_1) := (blk_cell BK213.out 1).trans rfl
         have hfz59_0 := blk_frozen BK213.out 0
         have hfz59_1 := blk_frozen BK213.out 1
         go_wp2_with (first | (go_at_call 19; (with_reducible refine (caulkerlaw01_may.calls a0_0 a0_1 false _ A47.out).mono ?_); rintro e w60 ⟨rfl, hb⟩; have n0_ := Aside0.mk (blk_below (g := gb213) (o := .cells #[.int .i64 a0_0, .int .i64 a0_1] 24 (0, 0)) (by (with_reducible repeat (first | refine blk_drewN ?_ _ | refine blk_drew ?_ | refine blk_alloc ?_ _)); refine blk_far ?_ NB213_220.out _; (with_reducible repeat (first | refine blk_drewN ?_ _ | refine blk_drew ?_ | refine blk_alloc ?_ _)); refine blk_far ?_ NB213_220.out _; (with_reducible repeat (first | refine blk_drewN ?_ _ | refine blk_drew ?_ | refine blk_alloc ?_ _)); exact BK213.out) hb); have n1_ := Aside0.mk (blk_below (g := gb214) (o := .cells #[.int .i64 a1_0, .int .i64 a1_1] 24 (0, 0)) (by (with_reducible repeat (first | refine blk_drewN ?_ _ | refine blk_drew ?_ | refine blk_alloc ?_ _)); refine blk_far ?_ NB214_220.out _; (with_reducible repeat (first | refine blk_drewN ?_ _ | refine blk_drew ?_ | refine blk_alloc ?_ _)); refine blk_far ?_ NB214_220.out _; (with_reducible repeat (first | refine blk_drewN ?_ _ | refine blk_drew ?_ | refine blk_alloc ?_ _)); exact BK214.out) hb); have n2_ := Aside0.mk (blk_below (g := gb220) (o := .cells #[.int .i64 t217, .int .i64 t218] 24 (0, 0)) (by (with_reducible repeat (first | refine blk_drewN ?_ _ | refine blk_drew ?_ | refine blk_alloc ?_ _)); refine blk_put (cs := #[.int .i64 t217, .int .i64 0]) ?_ 1 _ rfl; (with_reducible repeat (first | refine blk_drewN ?_ _ | refine blk_drew ?_ | refine blk_alloc ?_ _)); refine blk_put (cs := #[.int .i64 0, .int .i64 0]) ?_ 0 _ rfl; (with_reducible repeat (first | refine blk_drewN ?_ _ | refine blk_drew ?_ | refine blk_alloc ?_ _)); exact BK220.out) hb); have n3_ := pxs HB hb; clear BK213; clear BK214; clear BK220; clear HB; have BK213 := n0_; have BK214 := n1_; have BK220 := n2_; have HB := n3_; clear n0_ n1_ n2_ n3_; (try clear hb); (try clear hb2); (try clear hk); (try clear hi)))
         repeat (go_quiet (first | (go_at_call 19; (with_reducible refine (caulkerlaw01_may.calls a0_0 a0_1 false _ A47.out).mono ?_); rintro e w60 ⟨rfl, hb⟩; have n0_ := Aside0.mk (blk_below (g := gb213) (o := .cells #[.int .i64 a0_0, .int .i64 a0_1] 24 (0, 0)) (by (with_reducible repeat (first | refine blk_drewN ?_ _ | refine blk_drew ?_ | refine blk_alloc ?_ _)); refine blk_far ?_ NB213_220.out _; (with_reducible repeat (first | refine blk_drewN ?_ _ | refine blk_drew ?_ | refine blk_alloc ?_ _)); refine blk_far ?_ NB213_220.out _; (with_reducible repeat (first | refine blk_drewN ?_ _ | refine blk_drew ?_ | refine blk_alloc ?_ _)); exact BK213.out) hb); have n1_ := Aside0.mk (blk_below (g := gb214) (o := .cells #[.int .i64 a1_0, .int .i64 a1_1] 24 (0, 0)) (by (with_reducible repeat (first | refine blk_drewN ?_ _ | refine blk_drew ?_ | refine blk_alloc ?_ _)); refine blk_far ?_ NB214_220.out _; (with_reducible repeat (first | refine blk_drewN ?_ _ | refine blk_drew ?_ | refine blk_alloc ?_ _)); refine blk_far ?_ NB214_220.out _; (with_reducible repeat (first | refine blk_drewN ?_ _ | refine blk_drew ?_ | refine blk_alloc ?_ _)); exact BK214.out) hb); have n2_ := Aside0.mk (blk_below (g := gb220) (o := .cells #[.int .i64 t217, .int .i64 t218] 24 (0, 0)) (by (with_reducible repeat (first | refine blk_drewN ?_ _ | refine blk_drew ?_ | refine blk_alloc ?_ _)); refine blk_put (cs := #[.int .i64 t217, .int .i64 0]) ?_ 1 _ rfl; (with_reducible repeat (first | refine blk_drewN ?_ _ | refine blk_drew ?_ | refine blk_alloc ?_ _)); refine blk_put (cs := #[.int .i64 0, .int .i64 0]) ?_ 0 _ rfl; (with_reducible repeat (first | refine blk_drewN ?_ _ | refine blk_drew ?_ | refine blk_alloc ?_ _)); exact BK220.out) hb); have n3_ := pxs HB hb; clear BK213; clear BK214; clear BK220; clear HB; have BK213 := n0_; have BK214 := n1_; have BK220 := n2_; have HB := n3_; clear n0_ n1_ n2_ n3_; (try clear hb); (try clear hb2); (try clear hk); (try clear hi))); try go_wp2_with (first | (go_at_call 19; (with_reducible refine (caulkerlaw01_may.calls a0_0 a0_1 false _ A47.out).mono ?_); rintro e w60 ⟨rfl, hb⟩; have n0_ := Aside0.mk (blk_below (g := gb213) (o := .cells #[.int .i64 a0_0, .int .i64 a0_1] 24 (0, 0)) (by (with_reducible repeat (first | refine blk_drewN ?_ _ | refine blk_drew ?_ | refine blk_alloc ?_ _)); refine blk_far ?_ NB213_220.out _; (with_reducible repeat (first | refine blk_drewN ?_ _ | refine blk_drew ?_ | refine blk_alloc ?_ _)); refine blk_far ?_ NB213_220.out _; (with_reducible repeat (first | refine blk_drewN ?_ _ | refine blk_drew ?_ | refine blk_alloc ?_ _)); exact BK213.out) hb); have n1_ := Aside0.mk (blk_below (g := gb214) (o := .cells #[.int .i64 a1_0, .int .i64 a1_1] 24 (0, 0)) (by (with_reducible repeat (first | refine blk_drewN ?_ _ | refine blk_drew ?_ | refine blk_alloc ?_ _)); refine blk_far ?_ NB214_220.out _; (with_reducible repeat (first | refine blk_drewN ?_ _ | refine blk_drew ?_ | refine blk_alloc ?_ _)); refine blk_far ?_ NB214_220.out _; (with_reducible repeat (first | refine blk_drewN ?_ _ | refine blk_drew ?_ | refine blk_alloc ?_ _)); exact BK214.out) hb); have n2_ := Aside0.mk (blk_below (g := gb220) (o := .cells #[.int .i64 t217, .int .i64 t218] 24 (0, 0)) (by (with_reducible repeat (first | refine blk_drewN ?_ _ | refine blk_drew ?_ | refine blk_alloc ?_ _)); refine blk_put (cs := #[.int .i64 t217, .int .i64 0]) ?_ 1 _ rfl; (with_reducible repeat (first | refine blk_drewN ?_ _ | refine blk_drew ?_ | refine blk_alloc ?_ _)); refine blk_put (cs := #[.int .i64 0, .int .i64 0]) ?_ 0 _ rfl; (with_reducible repeat (first | refine blk_drewN ?_ _ | refine blk_drew ?_ | refine blk_alloc ?_ _)); exact BK220.out) hb); have n3_ := pxs HB hb; clear BK213; clear BK214; clear BK220; clear HB; have BK213 := n0_; have BK214 := n1_; have BK220 := n2_; have HB := n3_; clear n0_ n1_ n2_ n3_; (try clear hb); (try clear hb2); (try clear hk); (try clear hi))))
         go_meet
         case rel => exact ⟨_, (true), (by first | rfl | (simp; done) | (simp [*]; done)), H', ⟨by have := HJ4.out; have := HJ29.out; first | omega | exact Nat.le_refl _⟩, ⟨by (with_reducible repeat (first | refine blk_drewN ?_ _ | refine blk_drew ?_ | refine blk_alloc ?_ _)); exact BK213.out⟩, ⟨by (with_reducible repeat (first | refine blk_drewN ?_ _ | refine blk_drew ?_ | refine blk_alloc ?_ _)); exact BK214.out⟩, ⟨by (with_reducible repeat (first | refine blk_drewN ?_ _ | refine blk_drew ?_ | refine blk_alloc ?_ _)); exact BK220.out⟩, ⟨pxb HB⟩⟩
       case rest => as_aux_lemma =>
        clear HC38
        try clear c1
        try clear c2
        try clear p2
        try clear c3
        try clear c4
        try clear c5
        try clear c7
        try clear c10
        try clear c10b0
        try clear c11
        try clear c14
        try clear c14b0
        try clear c14b1
        try clear c15
        try clear c18
        try clear c21
        try clear c22
        try clear c22b0
        try clear c23
        try clear c26
        try clear c31
        try clear c35
        try clear c35b0
        try clear c35b1
        try clear c35b2
        try clear c36
        try clear c39
        try clear c44
        try clear c45
        try clear c48
        try clear c50
        try clear c51
        try clear c54
        try clear c57
        try clear c58
        try clear hcz12_0
        try clear hcz12_1
        try clear hcz13_0
        try clear hcz13_1
        try clear hcz16_0
        try clear hcz16_1
        try clear hcz17_0
        try clear hcz17_1
        try clear hcz19_0
        try clear hcz19_1
        try clear hcz20_0
        try clear hcz20_1
        try clear hcz24_0
        try clear hcz24_1
        try clear hcz25_0
        try clear hcz25_1
        try clear hcz27_0
        try clear hcz27_1
        try clear hcz28_0
        try clear hcz28_1
        try clear hcz32_0
        try clear hcz32_1
        try clear hcz33_0
        try clear hcz33_1
        try clear hcz40_0
        try clear hcz40_1
        try clear hcz41_0
        try clear hcz41_1
        try clear hcz46_0
        try clear hcz46_1
        try clear hcz52_0
        try clear hcz52_1
        try clear hcz55_0
        try clear hcz55_1
        try clear hcz59_0
        try clear hcz59_1
        try clear hfz12_0
        try clear hfz12_1
        try clear hfz13_0
        try clear hfz13_1
        try clear hfz16_0
        try clear hfz16_1
        try clear hfz17_0
        try clear hfz17_1
        try clear hfz19_0
        try clear hfz19_1
        try clear hfz20_0
        try clear hfz20_1
        try clear hfz24_0
        try clear hfz24_1
        try clear hfz25_0
        try clear hfz25_1
        try clear hfz27_0
        try clear hfz27_1
        try clear hfz28_0
        try clear hfz28_1
        try clear hfz32_0
        try clear hfz32_1
        try clear hfz33_0
        try clear hfz33_1
        try clear hfz40_0
        try clear hfz40_1
        try clear hfz41_0
        try clear hfz41_1
        try clear hfz46_0
        try clear hfz46_1
        try clear hfz52_0
        try clear hfz52_1
        try clear hfz55_0
        try clear hfz55_1
        try clear hfz59_0
        try clear hfz59_1
        try clear p2
        obtain ⟨kq, x67_37, rfl, HA, HJ37, BK213, BK214, BK220, HB⟩ := hcut
        cases kq with
        | zero => exact absurd HA.out (by simp [caulkerlaw01_SpanPairs.j3])
        | succ kj37 =>
         have H := HA.out
         clear HA
         simp only [caulkerlaw01_SpanPairs.j3] at H
         by_cases c61 : x67_37 = true
         ·subst c61
          have H1 : (if t219 = true then (some false) else (if (t217 == 0 && (t218 == 0)) = true then ((span_Holds.f kj37 a0_0 a0_1 a1_0 a1_1).bind fun t223 => (if t223 = true then (some false) else ((span_Apart.f kj37 a0_0 a0_1 a1_0 a1_1).bind fun t224 => (some (!t224))))) else (some false))) = some r := by rw [if_pos rfl] at H; exact H
          clear H
          have H := H1
          clear H1
          by_cases c62 : t219 = true
          ·subst c62
           have H1 : (some false) = some r := by rw [if_pos rfl] at H; exact H
           clear H
           have H := H1
           clear H1
           obtain rfl := Option.some.inj H
           go_wp2
           repeat (go_quiet (fail); try go_wp2)
           go_ret
           exact ⟨by first | rfl | (simp [errW_none, errW_some] <;> rfl) | (simp [*, errW_none, errW_some] <;> rfl), pxb HB⟩
          ·replace c62 := Bool.eq_false_iff.mpr c62
           subst c62
           have H1 : (if (t217 == 0 && (t218 == 0)) = true then ((span_Holds.f kj37 a0_0 a0_1 a1_0 a1_1).bind fun t223 => (if t223 = true then (some false) else ((span_Apart.f kj37 a0_0 a0_1 a1_0 a1_1).bind fun t224 => (some (!t224))))) else (some false)) = some r := by rw [if_neg (show ¬ (false = true) by decide)] at H; exact H
           clear H
           have H := H1
           clear H1
           by_cases c63 : (t217 == 0 && (t218 == 0)) = true
           ·rw [if_pos c63] at H
            have c63b0 : (t217 == 0 && (t218 == 0)) = true := c63
            (try (have c63b1 : decide (t217 = 0 && (t218 == 0)) = true := by simpa using c63))
            (try (have c63b2 : (t217 == 0 && (t218 == 0)) = true := by simpa using c63))
            clear c63
            replace H := Option.bind_eq_some_iff.mp H
            obtain ⟨t223, A640, H⟩ := H
            replace H : (if t223 = true then (some false) else ((span_Apart.f kj37 a0_0 a0_1 a1_0 a1_1).bind fun t224 => (some (!t224)))) = some r := H
            have A64 := Aside0.mk A640
            clear A640
            by_cases c65 : t223 = true
            ·subst c65
             have H1 : (some false) = some r := by rw [if_pos rfl] at H; exact H
             clear H
             have H := H1
             clear H1
             obtain rfl := Option.some.inj H
             have hnb66 := NB220_213.out
             have hnc66 := NB213_220.out
             have hnb67 := NB220_214.out
             have hnc67 := NB214_220.out
             have hcz68_0 : wc.cell? ⟨gb220, 0, none⟩ = some (.int .i64 t217) := (blk_cell BK220.out 0).trans rfl
             have hcz68_1 : wc.cell? ⟨gb220, 1, none⟩ = some (.int .i64 t218) := (blk_cell BK220.out 1).trans rfl
             have hfz68_0 := blk_frozen BK220.out 0
             have hfz68_1 := blk_frozen BK220.out 1
             have hnb69 := NB213_214.out
             have hnc69 := NB214_213.out
             have hcz70_0 : wc.cell? ⟨gb213, 0, none⟩ = some (.int .i64 a0_0) := (blk_cell BK213.out 0).trans rfl
             have hcz70_1 : wc.cell? ⟨gb213, 1, none⟩ = some (.int .i64 a0_1) := (blk_cell BK213.out 1).trans rfl
             have hfz70_0 := blk_frozen BK213.out 0
             have hfz70_1 := blk_frozen BK213.out 1
             have hcz71_0 : wc.cell? ⟨gb214, 0, none⟩ = some (.int .i64 a1_0) := (blk_cell BK214.out 0).trans rfl
             have hcz71_1 : wc.cell? ⟨gb214, 1, none⟩ = some (.int .i64 a1_1) := (blk_cell BK214.out 1).trans rfl
             have hfz71_0 := blk_frozen BK214.out 0
             have hfz71_1 := blk_frozen BK214.out 1
             go_wp2_with (first | (go_at_call 23; (with_reducible refine (span_Holds.calls kj37 a0_0 a0_1 a1_0 a1_1 true _ A64.out).mono ?_); rintro e w72 ⟨rfl, hb⟩; have n0_ := pxk BK213 hb; have n1_ := pxk BK214 hb; have n2_ := pxk BK220 hb; have n3_ := pxs HB hb; clear BK213; clear BK214; clear BK220; clear HB; have BK213 := n0_; have BK214 := n1_; have BK220 := n2_; have HB := n3_; clear n0_ n1_ n2_ n3_; (try clear hb); (try clear hb2); (try clear hk); (try clear hi)))
             repeat (go_quiet (first | (go_at_call 23; (with_reducible refine (span_Holds.calls kj37 a0_0 a0_1 a1_0 a1_1 true _ A64.out).mono ?_); rintro e w72 ⟨rfl, hb⟩; have n0_ := pxk BK213 hb; have n1_ := pxk BK214 hb; have n2_ := pxk BK220 hb; have n3_ := pxs HB hb; clear BK213; clear BK214; clear BK220; clear HB; have BK213 := n0_; have BK214 := n1_; have BK220 := n2_; have HB := n3_; clear n0_ n1_ n2_ n3_; (try clear hb); (try clear hb2); (try clear hk); (try clear hi))); try go_wp2_with (first | (go_at_call 23; (with_reducible refine (span_Holds.calls kj37 a0_0 a0_1 a1_0 a1_1 true _ A64.out).mono ?_); rintro e w72 ⟨rfl, hb⟩; have n0_ := pxk BK213 hb; have n1_ := pxk BK214 hb; have n2_ := pxk BK220 hb; have n3_ := pxs HB hb; clear BK213; clear BK214; clear BK220; clear HB; have BK213 := n0_; have BK214 := n1_; have BK220 := n2_; have HB := n3_; clear n0_ n1_ n2_ n3_; (try clear hb); (try clear hb2); (try clear hk); (try clear hi))))
             go_ret
             exact ⟨by first | rfl | (simp [errW_none, errW_some] <;> rfl) | (simp [*, errW_none, errW_some] <;> rfl), pxb HB⟩
            ·replace c65 := Bool.eq_false_iff.mpr c65
             subst c65
             have H1 : ((span_Apart.f kj37 a0_0 a0_1 a1_0 a1_1).bind fun t224 => (some (!t224))) = some r := by rw [if_neg (show ¬ (false = true) by decide)] at H; exact H
             clear H
             have H := H1
             clear H1
             replace H := Option.bind_eq_some_iff.mp H
             obtain ⟨t224, A730, H⟩ := H
             replace H : (some (!t224)) = some r := H
             have A73 := Aside0.mk A730
             clear A730
             obtain rfl := Option.some.inj H
             have hnb74 := NB220_213.out
             have hnc74 := NB213_220.out
             have hnb75 := NB220_214.out
             have hnc75 := NB214_220.out
             have hcz76_0 : wc.cell? ⟨gb220, 0, none⟩ = some (.int .i64 t217) := (blk_cell BK220.out 0).trans rfl
             have hcz76_1 : wc.cell? ⟨gb220, 1, none⟩ = some (.int .i64 t218) := (blk_cell BK220.out 1).trans rfl
             have hfz76_0 := blk_frozen BK220.out 0
             have hfz76_1 := blk_frozen BK220.out 1
             have hnb77 := NB213_214.out
             have hnc77 := NB214_213.out
             have hcz78_0 : wc.cell? ⟨gb213, 0, none⟩ = some (.int .i64 a0_0) := (blk_cell BK213.out 0).trans rfl
             have hcz78_1 : wc.cell? ⟨gb213, 1, none⟩ = some (.int .i64 a0_1) := (blk_cell BK213.out 1).trans rfl
             have hfz78_0 := blk_frozen BK213.out 0
             have hfz78_1 := blk_frozen BK213.out 1
             have hcz79_0 : wc.cell? ⟨gb214, 0, none⟩ = some (.int .i64 a1_0) := (blk_cell BK214.out 0).trans rfl
             have hcz79_1 : wc.cell? ⟨gb214, 1, none⟩ = some (.int .i64 a1_1) := (blk_cell BK214.out 1).trans rfl
             have hfz79_0 := blk_frozen BK214.out 0
             have hfz79_1 := blk_frozen BK214.out 1
             go_wp2_with (first | (go_at_call 23; (with_reducible refine (span_Holds.calls kj37 a0_0 a0_1 a1_0 a1_1 false _ A64.out).mono ?_); rintro e w80 ⟨rfl, hb⟩; have n0_ := pxk BK213 hb; have n1_ := pxk BK214 hb; have n2_ := pxk BK220 hb; have n3_ := pxs HB hb; clear BK213; clear BK214; clear BK220; clear HB; have BK213 := n0_; have BK214 := n1_; have BK220 := n2_; have HB := n3_; clear n0_ n1_ n2_ n3_; (try clear hb); (try clear hb2); (try clear hk); (try clear hi); have hcz81_0 : w80.cell? ⟨gb213, 0, none⟩ = some (.int .i64 a0_0) := (blk_cell BK213.out 0).trans rfl; have hcz81_1 : w80.cell? ⟨gb213, 1, none⟩ = some (.int .i64 a0_1) := (blk_cell BK213.out 1).trans rfl; have hfz81_0 := blk_frozen BK213.out 0; have hfz81_1 := blk_frozen BK213.out 1; have hcz82_0 : w80.cell? ⟨gb214, 0, none⟩ = some (.int .i64 a1_0) := (blk_cell BK214.out 0).trans rfl; have hcz82_1 : w80.cell? ⟨gb214, 1, none⟩ = some (.int .i64 a1_1) := (blk_cell BK214.out 1).trans rfl; have hfz82_0 := blk_frozen BK214.out 0; have hfz82_1 := blk_frozen BK214.out 1) | (go_at_call 26; (with_reducible refine (span_Apart.calls kj37 a0_0 a0_1 a1_0 a1_1 t224 _ A73.out).mono ?_); rintro e w83 ⟨rfl, hb⟩; have n0_ := pxk BK213 hb; have n1_ := pxk BK214 hb; have n2_ := pxk BK220 hb; have n3_ := pxs HB hb; clear BK213; clear BK214; clear BK220; clear HB; have BK213 := n0_; have BK214 := n1_; have BK220 := n2_; have HB := n3_; clear n0_ n1_ n2_ n3_; (try clear hb); (try clear hb2); (try clear hk); (try clear hi)))
             repeat (go_quiet (first | (go_at_call 23; (with_reducible refine (span_Holds.calls kj37 a0_0 a0_1 a1_0 a1_1 false _ A64.out).mono ?_); rintro e w80 ⟨rfl, hb⟩; have n0_ := pxk BK213 hb; have n1_ := pxk BK214 hb; have n2_ := pxk BK220 hb; have n3_ := pxs HB hb; clear BK213; clear BK214; clear BK220; clear HB; have BK213 := n0_; have BK214 := n1_; have BK220 := n2_; have HB := n3_; clear n0_ n1_ n2_ n3_; (try clear hb); (try clear hb2); (try clear hk); (try clear hi); have hcz81_0 : w80.cell? ⟨gb213, 0, none⟩ = some (.int .i64 a0_0) := (blk_cell BK213.out 0).trans rfl; have hcz81_1 : w80.cell? ⟨gb213, 1, none⟩ = some (.int .i64 a0_1) := (blk_cell BK213.out 1).trans rfl; have hfz81_0 := blk_frozen BK213.out 0; have hfz81_1 := blk_frozen BK213.out 1; have hcz82_0 : w80.cell? ⟨gb214, 0, none⟩ = some (.int .i64 a1_0) := (blk_cell BK214.out 0).trans rfl; have hcz82_1 : w80.cell? ⟨gb214, 1, none⟩ = some (.int .i64 a1_1) := (blk_cell BK214.out 1).trans rfl; have hfz82_0 := blk_frozen BK214.out 0; have hfz82_1 := blk_frozen BK214.out 1) | (go_at_call 26; (with_reducible refine (span_Apart.calls kj37 a0_0 a0_1 a1_0 a1_1 t224 _ A73.out).mono ?_); rintro e w83 ⟨rfl, hb⟩; have n0_ := pxk BK213 hb; have n1_ := pxk BK214 hb; have n2_ := pxk BK220 hb; have n3_ := pxs HB hb; clear BK213; clear BK214; clear BK220; clear HB; have BK213 := n0_; have BK214 := n1_; have BK220 := n2_; have HB := n3_; clear n0_ n1_ n2_ n3_; (try clear hb); (try clear hb2); (try clear hk); (try clear hi))); try go_wp2_with (first | (go_at_call 23; (with_reducible refine (span_Holds.calls kj37 a0_0 a0_1 a1_0 a1_1 false _ A64.out).mono ?_); rintro e w80 ⟨rfl, hb⟩; have n0_ := pxk BK213 hb; have n1_ := pxk BK214 hb; have n2_ := pxk BK220 hb; have n3_ := pxs HB hb; clear BK213; clear BK214; clear BK220; clear HB; have BK213 := n0_; have BK214 := n1_; have BK220 := n2_; have HB := n3_; clear n0_ n1_ n2_ n3_; (try clear hb); (try clear hb2); (try clear hk); (try clear hi); have hcz81_0 : w80.cell? ⟨gb213, 0, none⟩ = some (.int .i64 a0_0) := (blk_cell BK213.out 0).trans rfl; have hcz81_1 : w80.cell? ⟨gb213, 1, none⟩ = some (.int .i64 a0_1) := (blk_cell BK213.out 1).trans rfl; have hfz81_0 := blk_frozen BK213.out 0; have hfz81_1 := blk_frozen BK213.out 1; have hcz82_0 : w80.cell? ⟨gb214, 0, none⟩ = some (.int .i64 a1_0) := (blk_cell BK214.out 0).trans rfl; have hcz82_1 : w80.cell? ⟨gb214, 1, none⟩ = some (.int .i64 a1_1) := (blk_cell BK214.out 1).trans rfl; have hfz82_0 := blk_frozen BK214.out 0; have hfz82_1 := blk_frozen BK214.out 1) | (go_at_call 26; (with_reducible refine (span_Apart.calls kj37 a0_0 a0_1 a1_0 a1_1 t224 _ A73.out).mono ?_); rintro e w83 ⟨rfl, hb⟩; have n0_ := pxk BK213 hb; have n1_ := pxk BK214 hb; have n2_ := pxk BK220 hb; have n3_ := pxs HB hb; clear BK213; clear BK214; clear BK220; clear HB; have BK213 := n0_; have BK214 := n1_; have BK220 := n2_; have HB := n3_; clear n0_ n1_ n2_ n3_; (try clear hb); (try clear hb2); (try clear hk); (try clear hi))))
             go_ret
             exact ⟨by first | rfl | (simp [errW_none, errW_some] <;> rfl) | (simp [*, errW_none, errW_some] <;> rfl), pxb HB⟩
           ·rw [if_neg c63] at H
            have c63b0 : (t217 == 0 && (t218 == 0)) = false := by simpa using c63
            (try (have c63b1 : decide (t217 = 0 && (t218 == 0)) = false := by simpa using c63))
            (try (have c63b2 : (t217 == 0 && (t218 == 0)) = false := by simpa using c63))
            (try (have c63b3 : ¬ (t217 = 0 && (t218 == 0)) := by simpa using c63))
            clear c63
            obtain rfl := Option.some.inj H
            have hnb84 := NB220_213.out
            have hnc84 := NB213_220.out
            have hnb85 := NB220_214.out
            have hnc85 := NB214_220.out
            have hcz86_0 : wc.cell? ⟨gb220, 0, none⟩ = some (.int .i64 t217) := (blk_cell BK220.out 0).trans rfl
            have hcz86_1 : wc.cell? ⟨gb220, 1, none⟩ = some (.int .i64 t218) := (blk_cell BK220.out 1).trans rfl
            have hfz86_0 := blk_frozen BK220.out 0
            have hfz86_1 := blk_frozen BK220.out 1
            go_wp2
            repeat (go_quiet (fail); try go_wp2)
            go_ret
            exact ⟨by first | rfl | (simp [errW_none, errW_some] <;> rfl) | (simp [*, errW_none, errW_some] <;> rfl), pxb HB⟩
         ·replace c61 := Bool.eq_false_iff.mpr c61
          subst c61
          have H1 : (if (t219 != (decide ((mx a0_0 a1_0) < (mn a0_1 a1_1)))) = true then (caulkerlaw01_SpanPairs.j4 kj37 t219 true a0_0 a0_1 a1_0 a1_1) else (if t219 = true then (if (!(t217 == (mx a0_0 a1_0)) || (!(t218 == (mn a0_1 a1_1)))) = true then (caulkerlaw01_SpanPairs.j4 kj37 t219 true a0_0 a0_1 a1_0 a1_1) else (caulkerlaw01_SpanPairs.j4 kj37 t219 false a0_0 a0_1 a1_0 a1_1)) else (caulkerlaw01_SpanPairs.j4 kj37 t219 (!(t217 == 0) || (!(t218 == 0))) a0_0 a0_1 a1_0 a1_1))) = some r := by rw [if_neg (show ¬ (false = true) by decide)] at H; exact H
          clear H
          have H := H1
          clear H1
          obtain ⟨ji87, hji87⟩ : ∃ j_ : Int, (mx a0_0 a1_0) = j_ := ⟨_, rfl⟩
          replace H : (if (t219 != (decide ((ji87) < (mn a0_1 a1_1)))) = true then (caulkerlaw01_SpanPairs.j4 kj37 t219 true a0_0 a0_1 a1_0 a1_1) else (if t219 = true then (if (!(t217 == (ji87)) || (!(t218 == (mn a0_1 a1_1)))) = true then (caulkerlaw01_SpanPairs.j4 kj37 t219 true a0_0 a0_1 a1_0 a1_1) else (caulkerlaw01_SpanPairs.j4 kj37 t219 false a0_0 a0_1 a1_0 a1_1)) else (caulkerlaw01_SpanPairs.j4 kj37 t219 (!(t217 == 0) || (!(t218 == 0))) a0_0 a0_1 a1_0 a1_1))) = some r := by first | (rw [hji87] at H; exact H) | (simp only [hji87] at H ⊢; exact H)
          have hji87_ : (if a0_0 < a1_0 then a1_0 else a0_0) = ji87 := hji87
          obtain ⟨ji88, hji88⟩ : ∃ j_ : Int, (mn a0_1 a1_1) = j_ := ⟨_, rfl⟩
          replace H : (if (t219 != (decide ((ji87) < (ji88)))) = true then (caulkerlaw01_SpanPairs.j4 kj37 t219 true a0_0 a0_1 a1_0 a1_1) else (if t219 = true then (if (!(t217 == (ji87)) || (!(t218 == (ji88)))) = true then (caulkerlaw01_SpanPairs.j4 kj37 t219 true a0_0 a0_1 a1_0 a1_1) else (caulkerlaw01_SpanPairs.j4 kj37 t219 false a0_0 a0_1 a1_0 a1_1)) else (caulkerlaw01_SpanPairs.j4 kj37 t219 (!(t217 == 0) || (!(t218 == 0))) a0_0 a0_1 a1_0 a1_1))) = some r := by first | (rw [hji88] at H; exact H) | (simp only [hji88] at H ⊢; exact H)
          have hji88_ : (if a1_1 < a0_1 then a1_1 else a0_1) = ji88 := hji88
          have HC89 := Aside0.mk H
          clear H
          have hnb90 := NB213_214.out
          have hnc90 := NB214_213.out
          have hnb91 := NB213_220.out
          have hnc91 := NB220_213.out
          have hcz92_0 : wc.cell? ⟨gb213, 0, none⟩ = some (.int .i64 a0_0) := (blk_cell BK213.out 0).trans rfl
          have hcz92_1 : wc.cell? ⟨gb213, 1, none⟩ = some (.int .i64 a0_1) := (blk_cell BK213.out 1).trans rfl
          have hfz92_0 := blk_frozen BK213.out 0
          have hfz92_1 := blk_frozen BK213.out 1
          have hnb93 := NB214_220.out
          have hnc93 := NB220_214.out
          have hcz94_0 : wc.cell? ⟨gb214, 0, none⟩ = some (.int .i64 a1_0) := (blk_cell BK214.out 0).trans rfl
          have hcz94_1 : wc.cell? ⟨gb214, 1, none⟩ = some (.int .i64 a1_1) := (blk_cell BK214.out 1).trans rfl
          have hfz94_0 := blk_frozen BK214.out 0
          have hfz94_1 := blk_frozen BK214.out 1
          go_upto_region 15 with (fail)
          repeat (go_quiet (fail); go_upto_region 15 with (fail))
          go_cut [120] (fun v120 wc => ∃ (kq : Nat) (x120_88 : Bool), v120 = .bool x120_88 ∧ Aside0 (caulkerlaw01_SpanPairs.j4 kq t219 x120_88 a0_0 a0_1 a1_0 a1_1 = some r) ∧ Aside0 (kq ≤ kj37) ∧ Aside0 (wc.heap[gb213]? = some (.cells #[.int .i64 a0_0, .int .i64 a0_1] 24 (0, 0))) ∧ Aside0 (wc.heap[gb214]? = some (.cells #[.int .i64 a1_0, .int .i64 a1_1] 24 (0, 0))) ∧ Aside0 (wc.heap[gb220]? = some (.cells #[.int .i64 t217, .int .i64 t218] 24 (0, 0))) ∧ Aside0 (Below w.heap.size w wc))
          case first =>
           have H := HC89.out
           clear HC89
           by_cases c95 : (t219 != (decide ((ji87) < (ji88)))) = true
           ·rw [if_pos c95] at H
            have c95b0 : (t219 != (decide ((ji87) < (ji88)))) = true := c95
            (try (have c95b1 : decide (t219 = (decide ((ji87) < (ji88)))) = false := by simpa using c95))
            (try (have c95b2 : (t219 == (decide ((ji87) < (ji88)))) = false := by simpa using c95))
            (try (have c95b3 : ¬ (t219 = (decide ((ji87) < (ji88)))) := by simpa using c95))
            clear c95
            (first | rw [c95b0] | (simp only [i64_w, i32_w]; rw [c95b0]) | skip)
            have H' := Aside0.mk H
            clear H
            go_wp2
            repeat (go_quiet (fail); try go_wp2)
            go_meet
            case rel => exact ⟨_, (true), (by first | rfl | (simp; done) | (simp [*]; done)), H', ⟨by have := HJ4.out; have := HJ29.out; have := HJ37.out; first | omega | exact Nat.le_refl _⟩, ⟨by (with_reducible repeat (first | refine blk_drewN ?_ _ | refine blk_drew ?_ | refine blk_alloc ?_ _)); exact BK213.out⟩, ⟨by (with_reducible repeat (first | refine blk_drewN ?_ _ | refine blk_drew ?_ | refine blk_alloc ?_ _)); exact BK214.out⟩, ⟨by (with_reducible repeat (first | refine blk_drewN ?_ _ | refine blk_drew ?_ | refine blk_alloc ?_ _)); exact BK220.out⟩, ⟨pxb HB⟩⟩
           ·rw [if_neg c95] at H
            have c95b0 : (t219 != (decide ((ji87) < (ji88)))) = false := by simpa using c95
            (try (have c95b1 : decide (t219 = (decide ((ji87) < (ji88)))) = true := by simpa using c95))
            (try (have c95b2 : (t219 == (decide ((ji87) < (ji88)))) = true := by simpa using c95))
            clear c95
            (first | rw [c95b0] | (simp only [i64_w, i32_w]; rw [c95b0]) | skip)
            by_cases c96 : t219 = true
            ·subst c96
             have H1 : (if (!(t217 == (ji87)) || (!(t218 == (ji88)))) = true then (caulkerlaw01_SpanPairs.j4 kj37 true true a0_0 a0_1 a1_0 a1_1) else (caulkerlaw01_SpanPairs.j4 kj37 true false a0_0 a0_1 a1_0 a1_1)) = some r := by rw [if_pos rfl] at H; exact H
             clear H
             have H := H1
             clear H1
             by_cases c97 : (!(t217 == (ji87)) || (!(t218 == (ji88)))) = true
             ·rw [if_pos c97] at H
              have c97b0 : (!(t217 == (ji87)) || (!(t218 == (ji88)))) = true := c97
              clear c97
              have H' := Aside0.mk H
              clear H
              have hnb98 := NB220_213.out
              have hnc98 := NB213_220.out
              have hnb99 := NB220_214.out
              have hnc99 := NB214_220.out
              have hcz100_0 : wc.cell? ⟨gb220, 0, none⟩ = some (.int .i64 t217) := (blk_cell BK220.out 0).trans rfl
              have hcz100_1 : wc.cell? ⟨gb220, 1, none⟩ = some (.int .i64 t218) := (blk_cell BK220.out 1).trans rfl
              have hfz100_0 := blk_frozen BK220.out 0
              have hfz100_1 := blk_frozen BK220.out 1
              go_wp2
              repeat (go_quiet (fail); try go_wp2)
              go_meet
              case rel => exact ⟨_, (true), (by first | rfl | (simp; done) | (simp [*]; done)), H', ⟨by have := HJ4.out; have := HJ29.out; have := HJ37.out; first | omega | exact Nat.le_refl _⟩, ⟨by (with_reducible repeat (first | refine blk_drewN ?_ _ | refine blk_drew ?_ | refine blk_alloc ?_ _)); exact BK213.out⟩, ⟨by (with_reducible repeat (first | refine blk_drewN ?_ _ | refine blk_drew ?_ | refine blk_alloc ?_ _)); exact BK214.out⟩, ⟨by (with_reducible repeat (first | refine blk_drewN ?_ _ | refine blk_drew ?_ | refine blk_alloc ?_ _)); exact BK220.out⟩, ⟨pxb HB⟩⟩
             ·rw [if_neg c97] at H
              have c97b0 : (!(t217 == (ji87)) || (!(t218 == (ji88)))) = false := by simpa using c97
              clear c97
              have H' := Aside0.mk H
              clear H
              have hnb101 := NB220_213.out
              have hnc101 := NB213_220.out
              have hnb102 := NB220_214.out
              have hnc102 := NB214_220.out
              have hcz103_0 : wc.cell? ⟨gb220, 0, none⟩ = some (.int .i64 t217) := (blk_cell BK220.out 0).trans rfl
              have hcz103_1 : wc.cell? ⟨gb220, 1, none⟩ = some (.int .i64 t218) := (blk_cell BK220.out 1).trans rfl
              have hfz103_0 := blk_frozen BK220.out 0
              have hfz103_1 := blk_frozen BK220.out 1
              go_wp2
              repeat (go_quiet (fail); try go_wp2)
              go_meet
              case rel => exact ⟨_, (false), (by first | rfl | (simp; done) | (simp [*]; done)), H', ⟨by have := HJ4.out; have := HJ29.out; have := HJ37.out; first | omega | exact Nat.le_refl _⟩, ⟨by (with_reducible repeat (first | refine blk_drewN ?_ _ | refine blk_drew ?_ | refine blk_alloc ?_ _)); exact BK213.out⟩, ⟨by (with_reducible repeat (first | refine blk_drewN ?_ _ | refine blk_drew ?_ | refine blk_alloc ?_ _)); exact BK214.out⟩, ⟨by (with_reducible repeat (first | refine blk_drewN ?_ _ | refine blk_drew ?_ | refine blk_alloc ?_ _)); exact BK220.out⟩, ⟨pxb HB⟩⟩
            ·replace c96 := Bool.eq_false_iff.mpr c96
             subst c96
             have H1 : (caulkerlaw01_SpanPairs.j4 kj37 false (!(t217 == 0) || (!(t218 == 0))) a0_0 a0_1 a1_0 a1_1) = some r := by rw [if_neg (show ¬ (false = true) by decide)] at H; exact H
             clear H
             have H := H1
             clear H1
             have H' := Aside0.mk H
             clear H
             have hnb104 := NB220_213.out
             have hnc104 := NB213_220.out
             have hnb105 := NB220_214.out
             have hnc105 := NB214_220.out
             have hcz106_0 : wc.cell? ⟨gb220, 0, none⟩ = some (.int .i64 t217) := (blk_cell BK220.out 0).trans rfl
             have hcz106_1 : wc.cell? ⟨gb220, 1, none⟩ = some (.int .i64 t218) := (blk_cell BK220.out 1).trans rfl
             have hfz106_0 := blk_frozen BK220.out 0
             have hfz106_1 := blk_frozen BK220.out 1
             go_wp2
             repeat (go_quiet (fail); try go_wp2)
             go_meet
             case rel => exact ⟨_, ((!(t217 == 0) || (!(t218 == 0)))), (by first | rfl | (simp; done) | (simp [*]; done)), H', ⟨by have := HJ4.out; have := HJ29.out; have := HJ37.out; first | omega | exact Nat.le_refl _⟩, ⟨by (with_reducible repeat (first | refine blk_drewN ?_ _ | refine blk_drew ?_ | refine blk_alloc ?_ _)); exact BK213.out⟩, ⟨by (with_reducible repeat (first | refine blk_drewN ?_ _ | refine blk_drew ?_ | refine blk_alloc ?_ _)); exact BK214.out⟩, ⟨by (with_reducible repeat (first | refine blk_drewN ?_ _ | refine blk_drew ?_ | refine blk_alloc ?_ _)); exact BK220.out⟩, ⟨pxb HB⟩⟩
          case rest => as_aux_lemma =>
           clear HC89
           try clear c1
           try clear c2
           try clear p2
           try clear c3
           try clear c4
           try clear c5
           try clear c6
           try clear c7
           try clear c8
           try clear c9
           try clear c10
           try clear c10b0
           try clear c11
           try clear c14
           try clear c14b0
           try clear c14b1
           try clear c15
           try clear c18
           try clear c21
           try clear c22
           try clear c22b0
           try clear c23
           try clear c26
           try clear c31
           try clear c35
           try clear c35b0
           try clear c35b1
           try clear c35b2
           try clear c36
           try clear c39
           try clear c44
           try clear c45
           try clear c48
           try clear c50
           try clear c51
           try clear c54
           try clear c57
           try clear c58
           try clear c61
           try clear c62
           try clear c63
           try clear c63b0
           try clear c63b1
           try clear c63b2
           try clear c65
           try clear c66
           try clear c67
           try clear c69
           try clear c74
           try clear c75
           try clear c77
           try clear c84
           try clear c85
           try clear c90
           try clear c91
           try clear c93
           try clear c95
           try clear c95b0
           try clear c95b1
           try clear c95b2
           try clear c96
           try clear c97
           try clear c97b0
           try clear c98
           try clear c99
           try clear c101
           try clear c102
           try clear c104
           try clear c105
           try clear hcz100_0
           try clear hcz100_1
           try clear hcz103_0
           try clear hcz103_1
           try clear hcz106_0
           try clear hcz106_1
           try clear hcz12_0
           try clear hcz12_1
           try clear hcz13_0
           try clear hcz13_1
           try clear hcz16_0
           try clear hcz16_1
           try clear hcz17_0
           try clear hcz17_1
           try clear hcz19_0
           try clear hcz19_1
           try clear hcz20_0
           try clear hcz20_1
           try clear hcz24_0
           try clear hcz24_1
           try clear hcz25_0
           try clear hcz25_1
           try clear hcz27_0
           try clear hcz27_1
           try clear hcz28_0
           try clear hcz28_1
           try clear hcz32_0
           try clear hcz32_1
           try clear hcz33_0
           try clear hcz33_1
           try clear hcz40_0
           try clear hcz40_1
           try clear hcz41_0
           try clear hcz41_1
           try clear hcz46_0
           try clear hcz46_1
           try clear hcz52_0
           try clear hcz52_1
           try clear hcz55_0
           try clear hcz55_1
           try clear hcz59_0
           try clear hcz59_1
           try clear hcz68_0
           try clear hcz68_1
           try clear hcz70_0
           try clear hcz70_1
           try clear hcz71_0
           try clear hcz71_1
           try clear hcz76_0
           try clear hcz76_1
           try clear hcz78_0
           try clear hcz78_1
           try clear hcz79_0
           try clear hcz79_1
           try clear hcz81_0
           try clear hcz81_1
           try clear hcz82_0
           try clear hcz82_1
           try clear hcz86_0
           try clear hcz86_1
           try clear hcz92_0
           try clear hcz92_1
           try clear hcz94_0
           try clear hcz94_1
           try clear hfz100_0
           try clear hfz100_1
           try clear hfz103_0
           try clear hfz103_1
           try clear hfz106_0
           try clear hfz106_1
           try clear hfz12_0
           try clear hfz12_1
           try clear hfz13_0
           try clear hfz13_1
           try clear hfz16_0
           try clear hfz16_1
           try clear hfz17_0
           try clear hfz17_1
           try clear hfz19_0
           try clear hfz19_1
           try clear hfz20_0
           try clear hfz20_1
           try clear hfz24_0
           try clear hfz24_1
           try clear hfz25_0
           try clear hfz25_1
           try clear hfz27_0
           try clear hfz27_1
           try clear hfz28_0
           try clear hfz28_1
           try clear hfz32_0
           try clear hfz32_1
           try clear hfz33_0
           try clear hfz33_1
           try clear hfz40_0
           try clear hfz40_1
           try clear hfz41_0
           try clear hfz41_1
           try clear hfz46_0
           try clear hfz46_1
           try clear hfz52_0
           try clear hfz52_1
           try clear hfz55_0
           try clear hfz55_1
           try clear hfz59_0
           try clear hfz59_1
           try clear hfz68_0
           try clear hfz68_1
           try clear hfz70_0
           try clear hfz70_1
           try clear hfz71_0
           try clear hfz71_1
           try clear hfz76_0
           try clear hfz76_1
           try clear hfz78_0
           try clear hfz78_1
           try clear hfz79_0
           try clear hfz79_1
           try clear hfz81_0
           try clear hfz81_1
           try clear hfz82_0
           try clear hfz82_1
           try clear hfz86_0
           try clear hfz86_1
           try clear hfz92_0
           try clear hfz92_1
           try clear hfz94_0
           try clear hfz94_1
           try clear p2
           obtain ⟨kq, x120_88, rfl, HA, HJ88, BK213, BK214, BK220, HB⟩ := hcut
           cases kq with
           | zero => exact absurd HA.out (by simp [caulkerlaw01_SpanPairs.j4])
           | succ kj88 =>
            have H := HA.out
            clear HA
            simp only [caulkerlaw01_SpanPairs.j4] at H
            by_cases c107 : x120_88 = true
            ·subst c107
             have H1 : (some false) = some r := by rw [if_pos rfl] at H; exact H
             clear H
             have H := H1
             clear H1
             obtain rfl := Option.some.inj H
             go_wp2
             repeat (go_quiet (fail); try go_wp2)
             go_ret
             exact ⟨by first | rfl | (simp [errW_none, errW_some] <;> rfl) | (simp only [← hji87, ← hji88]; first | rfl | (simp [errW_none, errW_some] <;> rfl)) | (simp [*, errW_none, errW_some] <;> rfl), pxb HB⟩
            ·replace c107 := Bool.eq_false_iff.mpr c107
             subst c107
             have H1 : (if a0_0 ≤ a1_0 then (caulkerlaw01_SpanPairs.j5 kj88 t219 (decide (a1_1 ≤ a0_1)) a0_0 a0_1 a1_0 a1_1) else (caulkerlaw01_SpanPairs.j5 kj88 t219 false a0_0 a0_1 a1_0 a1_1)) = some r := by rw [if_neg (show ¬ (false = true) by decide)] at H; exact H
             clear H
             have H := H1
             clear H1
             have HC108 := Aside0.mk H
             clear H
             go_upto_region 17 with (fail)
             repeat (go_quiet (fail); go_upto_region 17 with (fail))
             go_cut [11] (fun v11 wc => ∃ (kq : Nat) (x11_107 : Bool), v11 = .bool x11_107 ∧ Aside0 (caulkerlaw01_SpanPairs.j5 kq t219 x11_107 a0_0 a0_1 a1_0 a1_1 = some r) ∧ Aside0 (kq ≤ kj88) ∧ Aside0 (wc.heap[gb213]? = some (.cells #[.int .i64 a0_0, .int .i64 a0_1] 24 (0, 0))) ∧ Aside0 (wc.heap[gb214]? = some (.cells #[.int .i64 a1_0, .int .i64 a1_1] 24 (0, 0))) ∧ Aside0 (wc.heap[gb220]? = some (.cells #[.int .i64 t217, .int .i64 t218] 24 (0, 0))) ∧ Aside0 (Below w.heap.size w wc))
             case first =>
              have H := HC108.out
              clear HC108
              by_cases c109 : a0_0 ≤ a1_0
              ·rw [if_pos c109] at H
               have c109b0 : decide (a0_0 ≤ a1_0) = true := decide_eq_true c109
               clear c109
               (first | rw [c109b0] | (simp only [i64_w, i32_w]; rw [c109b0]) | skip)
               have H' := Aside0.mk H
               clear H
               have hnb110 := NB213_214.out
               have hnc110 := NB214_213.out
               have hnb111 := NB213_220.out
               have hnc111 := NB220_213.out
               have hcz112_0 : wc.cell? ⟨gb213, 0, none⟩ = some (.int .i64 a0_0) := (blk_cell BK213.out 0).trans rfl
               have hcz112_1 : wc.cell? ⟨gb213, 1, none⟩ = some (.int .i64 a0_1) := (blk_cell BK213.out 1).trans rfl
               have hfz112_0 := blk_frozen BK213.out 0
               have hfz112_1 := blk_frozen BK213.out 1
               have hnb113 := NB214_220.out
               have hnc113 := NB220_214.out
               have hcz114_0 : wc.cell? ⟨gb214, 0, none⟩ = some (.int .i64 a1_0) := (blk_cell BK214.out 0).trans rfl
               have hcz114_1 : wc.cell? ⟨gb214, 1, none⟩ = some (.int .i64 a1_1) := (blk_cell BK214.out 1).trans rfl
               have hfz114_0 := blk_frozen BK214.out 0
               have hfz114_1 := blk_frozen BK214.out 1
               go_wp2
               repeat (go_quiet (fail); try go_wp2)
               go_meet
               case rel => exact ⟨_, (decide (a1_1 ≤ a0_1)), (by first | rfl | (simp; done) | (simp [*]; done)), H', ⟨by have := HJ4.out; have := HJ29.out; have := HJ37.out; have := HJ88.out; first | omega | exact Nat.le_refl _⟩, ⟨by (with_reducible repeat (first | refine blk_drewN ?_ _ | refine blk_drew ?_ | refine blk_alloc ?_ _)); exact BK213.out⟩, ⟨by (with_reducible repeat (first | refine blk_drewN ?_ _ | refine blk_drew ?_ | refine blk_alloc ?_ _)); exact BK214.out⟩, ⟨by (with_reducible repeat (first | refine blk_drewN ?_ _ | refine blk_drew ?_ | refine blk_alloc ?_ _)); exact BK220.out⟩, ⟨pxb HB⟩⟩
              ·rw [if_neg c109] at H
               have c109b0 : decide (a0_0 ≤ a1_0) = false := decide_eq_false c109
               clear c109
               (first | rw [c109b0] | (simp only [i64_w, i32_w]; rw [c109b0]) | skip)
               have H' := Aside0.mk H
               clear H
               have hnb115 := NB213_214.out
               have hnc115 := NB214_213.out
               have hnb116 := NB213_220.out
               have hnc116 := NB220_213.out
               have hcz117_0 : wc.cell? ⟨gb213, 0, none⟩ = some (.int .i64 a0_0) := (blk_cell BK213.out 0).trans rfl
               have hcz117_1 : wc.cell? ⟨gb213, 1, none⟩ = some (.int .i64 a0_1) := (blk_cell BK213.out 1).trans rfl
               have hfz117_0 := blk_frozen BK213.out 0
               have hfz117_1 := blk_frozen BK213.out 1
               have hnb118 := NB214_220.out
               have hnc118 := NB220_214.out
               have hcz119_0 : wc.cell? ⟨gb214, 0, none⟩ = some (.int .i64 a1_0) := (blk_cell BK214.out 0).trans rfl
               have hcz119_1 : wc.cell? ⟨gb214, 1, none⟩ = some (.int .i64 a1_1) := (blk_cell BK214.out 1).trans rfl
               have hfz119_0 := blk_frozen BK214.out 0
               have hfz119_1 := blk_frozen BK214.out 1
               go_wp2
               repeat (go_quiet (fail); try go_wp2)
               go_meet
               case rel => exact ⟨_, (false), (by first | rfl | (simp; done) | (simp [*]; done)), H', ⟨by have := HJ4.out; have := HJ29.out; have := HJ37.out; have := HJ88.out; first | omega | exact Nat.le_refl _⟩, ⟨by (with_reducible repeat (first | refine blk_drewN ?_ _ | refine blk_drew ?_ | refine blk_alloc ?_ _)); exact BK213.out⟩, ⟨by (with_reducible repeat (first | refine blk_drewN ?_ _ | refine blk_drew ?_ | refine blk_alloc ?_ _)); exact BK214.out⟩, ⟨by (with_reducible repeat (first | refine blk_drewN ?_ _ | refine blk_drew ?_ | refine blk_alloc ?_ _)); exact BK220.out⟩, ⟨pxb HB⟩⟩
             case rest => as_aux_lemma =>
              clear HC108
              try clear c1
              try clear c2
              try clear p2
              try clear c3
              try clear c4
              try clear c5
              try clear c6
              try clear c7
              try clear c8
              try clear c9
              try clear c10
              try clear c10b0
              try clear c11
              try clear c14
              try clear c14b0
              try clear c14b1
              try clear c15
              try clear c18
              try clear c21
              try clear c22
              try clear c22b0
              try clear c23
              try clear c26
              try clear c31
              try clear c35
              try clear c35b0
              try clear c35b1
              try clear c35b2
              try clear c36
              try clear c39
              try clear c44
              try clear c45
              try clear c48
              try clear c50
              try clear c51
              try clear c54
              try clear c57
              try clear c58
              try clear c61
              try clear c62
              try clear c63
              try clear c63b0
              try clear c63b1
              try clear c63b2
              try clear c65
              try clear c66
              try clear c67
              try clear c69
              try clear c74
              try clear c75
              try clear c77
              try clear c84
              try clear c85
              try clear c90
              try clear c91
              try clear c93
              try clear c95
              try clear c95b0
              try clear c95b1
              try clear c95b2
              try clear c96
              try clear c97
              try clear c97b0
              try clear c98
              try clear c99
              try clear c101
              try clear c102
              try clear c104
              try clear c105
              try clear c107
              try clear c109
              try clear c109b0
              try clear c110
              try clear c111
              try clear c113
              try clear c115
              try clear c116
              try clear c118
              try clear hcz100_0
              try clear hcz100_1
              try clear hcz103_0
              try clear hcz103_1
              try clear hcz106_0
              try clear hcz106_1
              try clear hcz112_0
              try clear hcz112_1
              try clear hcz114_0
              try clear hcz114_1
              try clear hcz117_0
              try clear hcz117_1
              try clear hcz119_0
              try clear hcz119_1
              try clear hcz12_0
              try clear hcz12_1
              try clear hcz13_0
              try clear hcz13_1
              try clear hcz16_0
              try clear hcz16_1
              try clear hcz17_0
              try clear hcz17_1
              try clear hcz19_0
              try clear hcz19_1
              try clear hcz20_0
              try clear hcz20_1
              try clear hcz24_0
              try clear hcz24_1
              try clear hcz25_0
              try clear hcz25_1
              try clear hcz27_0
              try clear hcz27_1
              try clear hcz28_0
              try clear hcz28_1
              try clear hcz32_0
              try clear hcz32_1
              try clear hcz33_0
              try clear hcz33_1
              try clear hcz40_0
              try clear hcz40_1
              try clear hcz41_0
              try clear hcz41_1
              try clear hcz46_0
              try clear hcz46_1
              try clear hcz52_0
              try clear hcz52_1
              try clear hcz55_0
              try clear hcz55_1
              try clear hcz59_0
              try clear hcz59_1
              try clear hcz68_0
              try clear hcz68_1
              try clear hcz70_0
              try clear hcz70_1
              try clear hcz71_0
              try clear hcz71_1
              try clear hcz76_0
              try clear hcz76_1
              try clear hcz78_0
              try clear hcz78_1
              try clear hcz79_0
              try clear hcz79_1
              try clear hcz81_0
              try clear hcz81_1
              try clear hcz82_0
              try clear hcz82_1
              try clear hcz86_0
              try clear hcz86_1
              try clear hcz92_0
              try clear hcz92_1
              try clear hcz94_0
              try clear hcz94_1
              try clear hfz100_0
              try clear hfz100_1
              try clear hfz103_0
              try clear hfz103_1
              try clear hfz106_0
              try clear hfz106_1
              try clear hfz112_0
              try clear hfz112_1
              try clear hfz114_0
              try clear hfz114_1
              try clear hfz117_0
              try clear hfz117_1
              try clear hfz119_0
              try clear hfz119_1
              try clear hfz12_0
              try clear hfz12_1
              try clear hfz13_0
              try clear hfz13_1
              try clear hfz16_0
              try clear hfz16_1
              try clear hfz17_0
              try clear hfz17_1
              try clear hfz19_0
              try clear hfz19_1
              try clear hfz20_0
              try clear hfz20_1
              try clear hfz24_0
              try clear hfz24_1
              try clear hfz25_0
              try clear hfz25_1
              try clear hfz27_0
              try clear hfz27_1
              try clear hfz28_0
              try clear hfz28_1
              try clear hfz32_0
              try clear hfz32_1
              try clear hfz33_0
              try clear hfz33_1
              try clear hfz40_0
              try clear hfz40_1
              try clear hfz41_0
              try clear hfz41_1
              try clear hfz46_0
              try clear hfz46_1
              try clear hfz52_0
              try clear hfz52_1
              try clear hfz55_0
              try clear hfz55_1
              try clear hfz59_0
              try clear hfz59_1
              try clear hfz68_0
              try clear hfz68_1
              try clear hfz70_0
              try clear hfz70_1
              try clear hfz71_0
              try clear hfz71_1
              try clear hfz76_0
              try clear hfz76_1
              try clear hfz78_0
              try clear hfz78_1
              try clear hfz79_0
              try clear hfz79_1
              try clear hfz81_0
              try clear hfz81_1
              try clear hfz82_0
              try clear hfz82_1
              try clear hfz86_0
              try clear hfz86_1
              try clear hfz92_0
              try clear hfz92_1
              try clear hfz94_0
              try clear hfz94_1
              try clear p2
              obtain ⟨kq, x11_107, rfl, HA, HJ107, BK213, BK214, BK220, HB⟩ := hcut
              cases kq with
              | zero => exact absurd HA.out (by simp [caulkerlaw01_SpanPairs.j5])
              | succ kj107 =>
               have H := HA.out
               clear HA
               simp only [caulkerlaw01_SpanPairs.j5] at H
               have HC120 := Aside0.mk H
               clear H
               go_upto_region 18 with (fail)
               repeat (go_quiet (fail); go_upto_region 18 with (fail))
               go_cut [12] (fun v12 wc => ∃ (kq : Nat) (x12_119 : Bool), v12 = .bool x12_119 ∧ Aside0 (caulkerlaw01_SpanPairs.j6 kq t219 x11_107 x12_119 a0_0 a0_1 a1_0 a1_1 = some r) ∧ Aside0 (kq ≤ kj107) ∧ Aside0 (wc.heap[gb213]? = some (.cells #[.int .i64 a0_0, .int .i64 a0_1] 24 (0, 0))) ∧ Aside0 (wc.heap[gb214]? = some (.cells #[.int .i64 a1_0, .int .i64 a1_1] 24 (0, 0))) ∧ Aside0 (wc.heap[gb220]? = some (.cells #[.int .i64 t217, .int .i64 t218] 24 (0, 0))) ∧ Aside0 (Below w.heap.size w wc))
               case first =>
                have H := HC120.out
                clear HC120
                by_cases c121 : a0_1 ≤ a1_0
                ·rw [if_pos c121] at H
                 have c121b0 : decide (a0_1 ≤ a1_0) = true := decide_eq_true c121
                 clear c121
                 (first | rw [c121b0] | (simp only [i64_w, i32_w]; rw [c121b0]) | skip)
                 have H' := Aside0.mk H
                 clear H
                 have hnb122 := NB213_214.out
                 have hnc122 := NB214_213.out
                 have hnb123 := NB213_220.out
                 have hnc123 := NB220_213.out
                 have hcz124_0 : wc.cell? ⟨gb213, 0, none⟩ = some (.int .i64 a0_0) := (blk_cell BK213.out 0).trans rfl
                 have hcz124_1 : wc.cell? ⟨gb213, 1, none⟩ = some (.int .i64 a0_1) := (blk_cell BK213.out 1).trans rfl
                 have hfz124_0 := blk_frozen BK213.out 0
                 have hfz124_1 := blk_frozen BK213.out 1
                 have hnb125 := NB214_220.out
                 have hnc125 := NB220_214.out
                 have hcz126_0 : wc.cell? ⟨gb214, 0, none⟩ = some (.int .i64 a1_0) := (blk_cell BK214.out 0).trans rfl
                 have hcz126_1 : wc.cell? ⟨gb214, 1, none⟩ = some (.int .i64 a1_1) := (blk_cell BK214.out 1).trans rfl
                 have hfz126_0 := blk_frozen BK214.out 0
                 have hfz126_1 := blk_frozen BK214.out 1
                 go_wp2
                 repeat (go_quiet (fail); try go_wp2)
                 go_meet
                 case rel => exact ⟨_, (true), (by first | rfl | (simp; done) | (simp [*]; done)), H', ⟨by have := HJ4.out; have := HJ29.out; have := HJ37.out; have := HJ88.out; have := HJ107.out; first | omega | exact Nat.le_refl _⟩, ⟨by (with_reducible repeat (first | refine blk_drewN ?_ _ | refine blk_drew ?_ | refine blk_alloc ?_ _)); exact BK213.out⟩, ⟨by (with_reducible repeat (first | refine blk_drewN ?_ _ | refine blk_drew ?_ | refine blk_alloc ?_ _)); exact BK214.out⟩, ⟨by (with_reducible repeat (first | refine blk_drewN ?_ _ | refine blk_drew ?_ | refine blk_alloc ?_ _)); exact BK220.out⟩, ⟨pxb HB⟩⟩
                ·rw [if_neg c121] at H
                 have c121b0 : decide (a0_1 ≤ a1_0) = false := decide_eq_false c121
                 clear c121
                 (first | rw [c121b0] | (simp only [i64_w, i32_w]; rw [c121b0]) | skip)
                 have H' := Aside0.mk H
                 clear H
                 have hnb127 := NB213_214.out
                 have hnc127 := NB214_213.out
                 have hnb128 := NB213_220.out
                 have hnc128 := NB220_213.out
                 have hcz129_0 : wc.cell? ⟨gb213, 0, none⟩ = some (.int .i64 a0_0) := (blk_cell BK213.out 0).trans rfl
                 have hcz129_1 : wc.cell? ⟨gb213, 1, none⟩ = some (.int .i64 a0_1) := (blk_cell BK213.out 1).trans rfl
                 have hfz129_0 := blk_frozen BK213.out 0
                 have hfz129_1 := blk_frozen BK213.out 1
                 have hnb130 := NB214_220.out
                 have hnc130 := NB220_214.out
                 have hcz131_0 : wc.cell? ⟨gb214, 0, none⟩ = some (.int .i64 a1_0) := (blk_cell BK214.out 0).trans rfl
                 have hcz131_1 : wc.cell? ⟨gb214, 1, none⟩ = some (.int .i64 a1_1) := (blk_cell BK214.out 1).trans rfl
                 have hfz131_0 := blk_frozen BK214.out 0
                 have hfz131_1 := blk_frozen BK214.out 1
                 go_wp2
                 repeat (go_quiet (fail); try go_wp2)
                 go_meet
                 case rel => exact ⟨_, (decide (a1_1 ≤ a0_0)), (by first | rfl | (simp; done) | (simp [*]; done)), H', ⟨by have := HJ4.out; have := HJ29.out; have := HJ37.out; have := HJ88.out; have := HJ107.out; first | omega | exact Nat.le_refl _⟩, ⟨by (with_reducible repeat (first | refine blk_drewN ?_ _ | refine blk_drew ?_ | refine blk_alloc ?_ _)); exact BK213.out⟩, ⟨by (with_reducible repeat (first | refine blk_drewN ?_ _ | refine blk_drew ?_ | refine blk_alloc ?_ _)); exact BK214.out⟩, ⟨by (with_reducible repeat (first | refine blk_drewN ?_ _ | refine blk_drew ?_ | refine blk_alloc ?_ _)); exact BK220.out⟩, ⟨pxb HB⟩⟩
               case rest => as_aux_lemma =>
                clear HC120
                try clear c1
                try clear c2
                try clear p2
                try clear c3
                try clear c4
                try clear c5
                try clear c6
                try clear c7
                try clear c8
                try clear c9
                try clear c10
                try clear c10b0
                try clear c11
                try clear c12
                try clear c13
                try clear c14
                try clear c14b0
                try clear c14b1
                try clear c15
                try clear c18
                try clear c21
                try clear c22
                try clear c22b0
                try clear c23
                try clear c26
                try clear c31
                try clear c35
                try clear c35b0
                try clear c35b1
                try clear c35b2
                try clear c36
                try clear c39
                try clear c44
                try clear c45
                try clear c48
                try clear c50
                try clear c51
                try clear c54
                try clear c57
                try clear c58
                try clear c61
                try clear c62
                try clear c63
                try clear c63b0
                try clear c63b1
                try clear c63b2
                try clear c65
                try clear c66
                try clear c67
                try clear c69
                try clear c74
                try clear c75
                try clear c77
                try clear c84
                try clear c85
                try clear c90
                try clear c91
                try clear c93
                try clear c95
                try clear c95b0
                try clear c95b1
                try clear c95b2
                try clear c96
                try clear c97
                try clear c97b0
                try clear c98
                try clear c99
                try clear c101
                try clear c102
                try clear c104
                try clear c105
                try clear c107
                try clear c109
                try clear c109b0
                try clear c110
                try clear c111
                try clear c113
                try clear c115
                try clear c116
                try clear c118
                try clear c121
                try clear c121b0
                try clear c122
                try clear c123
                try clear c125
                try clear c127
                try clear c128
                try clear c130
                try clear hcz100_0
                try clear hcz100_1
                try clear hcz103_0
                try clear hcz103_1
                try clear hcz106_0
                try clear hcz106_1
                try clear hcz112_0
                try clear hcz112_1
                try clear hcz114_0
                try clear hcz114_1
                try clear hcz117_0
                try clear hcz117_1
                try clear hcz119_0
                try clear hcz119_1
                try clear hcz124_0
                try clear hcz124_1
                try clear hcz126_0
                try clear hcz126_1
                try clear hcz129_0
                try clear hcz129_1
                try clear hcz12_0
                try clear hcz12_1
                try clear hcz131_0
                try clear hcz131_1
                try clear hcz13_0
                try clear hcz13_1
                try clear hcz16_0
                try clear hcz16_1
                try clear hcz17_0
                try clear hcz17_1
                try clear hcz19_0
                try clear hcz19_1
                try clear hcz20_0
                try clear hcz20_1
                try clear hcz24_0
                try clear hcz24_1
                try clear hcz25_0
                try clear hcz25_1
                try clear hcz27_0
                try clear hcz27_1
                try clear hcz28_0
                try clear hcz28_1
                try clear hcz32_0
                try clear hcz32_1
                try clear hcz33_0
                try clear hcz33_1
                try clear hcz40_0
                try clear hcz40_1
                try clear hcz41_0
                try clear hcz41_1
                try clear hcz46_0
                try clear hcz46_1
                try clear hcz52_0
                try clear hcz52_1
                try clear hcz55_0
                try clear hcz55_1
                try clear hcz59_0
                try clear hcz59_1
                try clear hcz68_0
                try clear hcz68_1
                try clear hcz70_0
                try clear hcz70_1
                try clear hcz71_0
                try clear hcz71_1
                try clear hcz76_0
                try clear hcz76_1
                try clear hcz78_0
                try clear hcz78_1
                try clear hcz79_0
                try clear hcz79_1
                try clear hcz81_0
                try clear hcz81_1
                try clear hcz82_0
                try clear hcz82_1
                try clear hcz86_0
                try clear hcz86_1
                try clear hcz92_0
                try clear hcz92_1
                try clear hcz94_0
                try clear hcz94_1
                try clear hfz100_0
                try clear hfz100_1
                try clear hfz103_0
                try clear hfz103_1
                try clear hfz106_0
                try clear hfz106_1
                try clear hfz112_0
                try clear hfz112_1
                try clear hfz114_0
                try clear hfz114_1
                try clear hfz117_0
                try clear hfz117_1
                try clear hfz119_0
                try clear hfz119_1
                try clear hfz124_0
                try clear hfz124_1
                try clear hfz126_0
                try clear hfz126_1
                try clear hfz129_0
                try clear hfz129_1
                try clear hfz12_0
                try clear hfz12_1
                try clear hfz131_0
                try clear hfz131_1
                try clear hfz13_0
                try clear hfz13_1
                try clear hfz16_0
                try clear hfz16_1
                try clear hfz17_0
                try clear hfz17_1
                try clear hfz19_0
                try clear hfz19_1
                try clear hfz20_0
                try clear hfz20_1
                try clear hfz24_0
                try clear hfz24_1
                try clear hfz25_0
                try clear hfz25_1
                try clear hfz27_0
                try clear hfz27_1
                try clear hfz28_0
                try clear hfz28_1
                try clear hfz32_0
                try clear hfz32_1
                try clear hfz33_0
                try clear hfz33_1
                try clear hfz40_0
                try clear hfz40_1
                try clear hfz41_0
                try clear hfz41_1
                try clear hfz46_0
                try clear hfz46_1
                try clear hfz52_0
                try clear hfz52_1
                try clear hfz55_0
                try clear hfz55_1
                try clear hfz59_0
                try clear hfz59_1
                try clear hfz68_0
                try clear hfz68_1
                try clear hfz70_0
                try clear hfz70_1
                try clear hfz71_0
                try clear hfz71_1
                try clear hfz76_0
                try clear hfz76_1
                try clear hfz78_0
                try clear hfz78_1
                try clear hfz79_0
                try clear hfz79_1
                try clear hfz81_0
                try clear hfz81_1
                try clear hfz82_0
                try clear hfz82_1
                try clear hfz86_0
                try clear hfz86_1
                try clear hfz92_0
                try clear hfz92_1
                try clear hfz94_0
                try clear hfz94_1
                try clear p2
                obtain ⟨kq, x12_119, rfl, HA, HJ119, BK213, BK214, BK220, HB⟩ := hcut
                cases kq with
                | zero => exact absurd HA.out (by simp [caulkerlaw01_SpanPairs.j6])
                | succ kj119 =>
                 have H := HA.out
                 clear HA
                 simp only [caulkerlaw01_SpanPairs.j6] at H
                 have HC132 := Aside0.mk H
                 clear H
                 go_upto_region 19 with (fail)
                 repeat (go_quiet (fail); go_upto_region 19 with (fail))
                 go_cut [154] (fun v154 wc => ∃ (kq : Nat) (x154_131 : Bool), v154 = .bool x154_131 ∧ Aside0 (caulkerlaw01_SpanPairs.j7 kq t219 x11_107 x12_119 x154_131 a0_0 a0_1 a1_0 a1_1 = some r) ∧ Aside0 (kq ≤ kj119) ∧ Aside0 (wc.heap[gb213]? = some (.cells #[.int .i64 a0_0, .int .i64 a0_1] 24 (0, 0))) ∧ Aside0 (wc.heap[gb214]? = some (.cells #[.int .i64 a1_0, .int .i64 a1_1] 24 (0, 0))) ∧ Aside0 (wc.heap[gb220]? = some (.cells #[.int .i64 t217, .int .i64 t218] 24 (0, 0))) ∧ Aside0 (Below w.heap.size w wc))
                 case first =>
                  have H := HC132.out
                  clear HC132
                  by_cases c133 : (a0_0 == a1_0 && (a0_1 == a1_1)) = true
                  ·rw [if_pos c133] at H
                   have c133b0 : (a0_0 == a1_0 && (a0_1 == a1_1)) = true := c133
                   (try (have c133b1 : decide (a0_0 = a1_0 && (a0_1 == a1_1)) = true := by simpa using c133))
                   (try (have c133b2 : (a0_0 == a1_0 && (a0_1 == a1_1)) = true := by simpa using c133))
                   clear c133
                   (first | rw [c133b0] | (simp only [i64_w, i32_w]; rw [c133b0]) | skip)
                   have H' := Aside0.mk H
                   clear H
                   have hnb134 := NB213_214.out
                   have hnc134 := NB214_213.out
                   have hnb135 := NB213_220.out
                   have hnc135 := NB220_213.out
                   have hcz136_0 : wc.cell? ⟨gb213, 0, none⟩ = some (.int .i64 a0_0) := (blk_cell BK213.out 0).trans rfl
                   have hcz136_1 : wc.cell? ⟨gb213, 1, none⟩ = some (.int .i64 a0_1) := (blk_cell BK213.out 1).trans rfl
                   have hfz136_0 := blk_frozen BK213.out 0
                   have hfz136_1 := blk_frozen BK213.out 1
                   have hnb137 := NB214_220.out
                   have hnc137 := NB220_214.out
                   have hcz138_0 : wc.cell? ⟨gb214, 0, none⟩ = some (.int .i64 a1_0) := (blk_cell BK214.out 0).trans rfl
                   have hcz138_1 : wc.cell? ⟨gb214, 1, none⟩ = some (.int .i64 a1_1) := (blk_cell BK214.out 1).trans rfl
                   have hfz138_0 := blk_frozen BK214.out 0
                   have hfz138_1 := blk_frozen BK214.out 1
                   go_wp2
                   repeat (go_quiet (fail); try go_wp2)
                   go_meet
                   case rel => exact ⟨_, ((a0_0 == a0_1)), (by first | rfl | (simp; done) | (simp [*]; done)), H', ⟨by have := HJ4.out; have := HJ29.out; have := HJ37.out; have := HJ88.out; have := HJ107.out; have := HJ119.out; first | omega | exact Nat.le_refl _⟩, ⟨by (with_reducible repeat (first | refine blk_drewN ?_ _ | refine blk_drew ?_ | refine blk_alloc ?_ _)); exact BK213.out⟩, ⟨by (with_reducible repeat (first | refine blk_drewN ?_ _ | refine blk_drew ?_ | refine blk_alloc ?_ _)); exact BK214.out⟩, ⟨by (with_reducible repeat (first | refine blk_drewN ?_ _ | refine blk_drew ?_ | refine blk_alloc ?_ _)); exact BK220.out⟩, ⟨pxb HB⟩⟩
                  ·rw [if_neg c133] at H
                   have c133b0 : (a0_0 == a1_0 && (a0_1 == a1_1)) = false := by simpa using c133
                   (try (have c133b1 : decide (a0_0 = a1_0 && (a0_1 == a1_1)) = false := by simpa using c133))
                   (try (have c133b2 : (a0_0 == a1_0 && (a0_1 == a1_1)) = false := by simpa using c133))
                   (try (have c133b3 : ¬ (a0_0 = a1_0 && (a0_1 == a1_1)) := by simpa using c133))
                   clear c133
                   (first | rw [c133b0] | (simp only [i64_w, i32_w]; rw [c133b0]) | skip)
                   have H' := Aside0.mk H
                   clear H
                   have hnb139 := NB213_214.out
                   have hnc139 := NB214_213.out
                   have hnb140 := NB213_220.out
                   have hnc140 := NB220_213.out
                   have hcz141_0 : wc.cell? ⟨gb213, 0, none⟩ = some (.int .i64 a0_0) := (blk_cell BK213.out 0).trans rfl
                   have hcz141_1 : wc.cell? ⟨gb213, 1, none⟩ = some (.int .i64 a0_1) := (blk_cell BK213.out 1).trans rfl
                   have hfz141_0 := blk_frozen BK213.out 0
                   have hfz141_1 := blk_frozen BK213.out 1
                   have hnb142 := NB214_220.out
                   have hnc142 := NB220_214.out
                   have hcz143_0 : wc.cell? ⟨gb214, 0, none⟩ = some (.int .i64 a1_0) := (blk_cell BK214.out 0).trans rfl
                   have hcz143_1 : wc.cell? ⟨gb214, 1, none⟩ = some (.int .i64 a1_1) := (blk_cell BK214.out 1).trans rfl
                   have hfz143_0 := blk_frozen BK214.out 0
                   have hfz143_1 := blk_frozen BK214.out 1
                   go_wp2
                   repeat (go_quiet (fail); try go_wp2)
                   go_meet
                   case rel => exact ⟨_, (false), (by first | rfl | (simp; done) | (simp [*]; done)), H', ⟨by have := HJ4.out; have := HJ29.out; have := HJ37.out; have := HJ88.out; have := HJ107.out; have := HJ119.out; first | omega | exact Nat.le_refl _⟩, ⟨by (with_reducible repeat (first | refine blk_drewN ?_ _ | refine blk_drew ?_ | refine blk_alloc ?_ _)); exact BK213.out⟩, ⟨by (with_reducible repeat (first | refine blk_drewN ?_ _ | refine blk_drew ?_ | refine blk_alloc ?_ _)); exact BK214.out⟩, ⟨by (with_reducible repeat (first | refine blk_drewN ?_ _ | refine blk_drew ?_ | refine blk_alloc ?_ _)); exact BK220.out⟩, ⟨pxb HB⟩⟩
                 case rest => as_aux_lemma =>
                  clear HC132
                  try clear c1
                  try clear c2
                  try clear p2
                  try clear c3
                  try clear c4
                  try clear c5
                  try clear c6
                  try clear c7
                  try clear c8
                  try clear c9
                  try clear c10
                  try clear c10b0
                  try clear c11
                  try clear c12
                  try clear c13
                  try clear c14
                  try clear c14b0
                  try clear c14b1
                  try clear c15
                  try clear c18
                  try clear c21
                  try clear c22
                  try clear c22b0
                  try clear c23
                  try clear c26
                  try clear c31
                  try clear c35
                  try clear c35b0
                  try clear c35b1
                  try clear c35b2
                  try clear c36
                  try clear c39
                  try clear c44
                  try clear c45
                  try clear c48
                  try clear c50
                  try clear c51
                  try clear c54
                  try clear c57
                  try clear c58
                  try clear c61
                  try clear c62
                  try clear c63
                  try clear c63b0
                  try clear c63b1
                  try clear c63b2
                  try clear c65
                  try clear c66
                  try clear c67
                  try clear c69
                  try clear c74
                  try clear c75
                  try clear c77
                  try clear c84
                  try clear c85
                  try clear c90
                  try clear c91
                  try clear c93
                  try clear c95
                  try clear c95b0
                  try clear c95b1
                  try clear c95b2
                  try clear c96
                  try clear c97
                  try clear c97b0
                  try clear c98
                  try clear c99
                  try clear c101
                  try clear c102
                  try clear c104
                  try clear c105
                  try clear c107
                  try clear c109
                  try clear c109b0
                  try clear c110
                  try clear c111
                  try clear c113
                  try clear c115
                  try clear c116
                  try clear c118
                  try clear c121
                  try clear c121b0
                  try clear c122
                  try clear c123
                  try clear c125
                  try clear c127
                  try clear c128
                  try clear c130
                  try clear c133
                  try clear c133b0
                  try clear c133b1
                  try clear c133b2
                  try clear c134
                  try clear c135
                  try clear c137
                  try clear c139
                  try clear c140
                  try clear c142
                  try clear hcz100_0
                  try clear hcz100_1
                  try clear hcz103_0
                  try clear hcz103_1
                  try clear hcz106_0
                  try clear hcz106_1
                  try clear hcz112_0
                  try clear hcz112_1
                  try clear hcz114_0
                  try clear hcz114_1
                  try clear hcz117_0
                  try clear hcz117_1
                  try clear hcz119_0
                  try clear hcz119_1
                  try clear hcz124_0
                  try clear hcz124_1
                  try clear hcz126_0
                  try clear hcz126_1
                  try clear hcz129_0
                  try clear hcz129_1
                  try clear hcz12_0
                  try clear hcz12_1
                  try clear hcz131_0
                  try clear hcz131_1
                  try clear hcz136_0
                  try clear hcz136_1
                  try clear hcz138_0
                  try clear hcz138_1
                  try clear hcz13_0
                  try clear hcz13_1
                  try clear hcz141_0
                  try clear hcz141_1
                  try clear hcz143_0
                  try clear hcz143_1
                  try clear hcz16_0
                  try clear hcz16_1
                  try clear hcz17_0
                  try clear hcz17_1
                  try clear hcz19_0
                  try clear hcz19_1
                  try clear hcz20_0
                  try clear hcz20_1
                  try clear hcz24_0
                  try clear hcz24_1
                  try clear hcz25_0
                  try clear hcz25_1
                  try clear hcz27_0
                  try clear hcz27_1
                  try clear hcz28_0
                  try clear hcz28_1
                  try clear hcz32_0
                  try clear hcz32_1
                  try clear hcz33_0
                  try clear hcz33_1
                  try clear hcz40_0
                  try clear hcz40_1
                  try clear hcz41_0
                  try clear hcz41_1
                  try clear hcz46_0
                  try clear hcz46_1
                  try clear hcz52_0
                  try clear hcz52_1
                  try clear hcz55_0
                  try clear hcz55_1
                  try clear hcz59_0
                  try clear hcz59_1
                  try clear hcz68_0
                  try clear hcz68_1
                  try clear hcz70_0
                  try clear hcz70_1
                  try clear hcz71_0
                  try clear hcz71_1
                  try clear hcz76_0
                  try clear hcz76_1
                  try clear hcz78_0
                  try clear hcz78_1
                  try clear hcz79_0
                  try clear hcz79_1
                  try clear hcz81_0
                  try clear hcz81_1
                  try clear hcz82_0
                  try clear hcz82_1
                  try clear hcz86_0
                  try clear hcz86_1
                  try clear hcz92_0
                  try clear hcz92_1
                  try clear hcz94_0
                  try clear hcz94_1
                  try clear hfz100_0
                  try clear hfz100_1
                  try clear hfz103_0
                  try clear hfz103_1
                  try clear hfz106_0
                  try clear hfz106_1
                  try clear hfz112_0
                  try clear hfz112_1
                  try clear hfz114_0
                  try clear hfz114_1
                  try clear hfz117_0
                  try clear hfz117_1
                  try clear hfz119_0
                  try clear hfz119_1
                  try clear hfz124_0
                  try clear hfz124_1
                  try clear hfz126_0
                  try clear hfz126_1
                  try clear hfz129_0
                  try clear hfz129_1
                  try clear hfz12_0
                  try clear hfz12_1
                  try clear hfz131_0
                  try clear hfz131_1
                  try clear hfz136_0
                  try clear hfz136_1
                  try clear hfz138_0
                  try clear hfz138_1
                  try clear hfz13_0
                  try clear hfz13_1
                  try clear hfz141_0
                  try clear hfz141_1
                  try clear hfz143_0
                  try clear hfz143_1
                  try clear hfz16_0
                  try clear hfz16_1
                  try clear hfz17_0
                  try clear hfz17_1
                  try clear hfz19_0
                  try clear hfz19_1
                  try clear hfz20_0
                  try clear hfz20_1
                  try clear hfz24_0
                  try clear hfz24_1
                  try clear hfz25_0
                  try clear hfz25_1
                  try clear hfz27_0
                  try clear hfz27_1
                  try clear hfz28_0
                  try clear hfz28_1
                  try clear hfz32_0
                  try clear hfz32_1
                  try clear hfz33_0
                  try clear hfz33_1
                  try clear hfz40_0
                  try clear hfz40_1
                  try clear hfz41_0
                  try clear hfz41_1
                  try clear hfz46_0
                  try clear hfz46_1
                  try clear hfz52_0
                  try clear hfz52_1
                  try clear hfz55_0
                  try clear hfz55_1
                  try clear hfz59_0
                  try clear hfz59_1
                  try clear hfz68_0
                  try clear hfz68_1
                  try clear hfz70_0
                  try clear hfz70_1
                  try clear hfz71_0
                  try clear hfz71_1
                  try clear hfz76_0
                  try clear hfz76_1
                  try clear hfz78_0
                  try clear hfz78_1
                  try clear hfz79_0
                  try clear hfz79_1
                  try clear hfz81_0
                  try clear hfz81_1
                  try clear hfz82_0
                  try clear hfz82_1
                  try clear hfz86_0
                  try clear hfz86_1
                  try clear hfz92_0
                  try clear hfz92_1
                  try clear hfz94_0
                  try clear hfz94_1
                  try clear p2
                  obtain ⟨kq, x154_131, rfl, HA, HJ131, BK213, BK214, BK220, HB⟩ := hcut
                  cases kq with
                  | zero => exact absurd HA.out (by simp [caulkerlaw01_SpanPairs.j7])
                  | succ kj131 =>
                   have H := HA.out
                   clear HA
                   simp only [caulkerlaw01_SpanPairs.j7] at H
                   by_cases c144 : x154_131 = true
                   ·subst c144
                    have H1 : ((span_Holds.f kj131 a0_0 a0_1 a1_0 a1_1).bind fun t225 => (if (t225 == x11_107) = true then ((span_Apart.f kj131 a0_0 a0_1 a1_0 a1_1).bind fun t226 => (if (t226 == false) = true then ((span_Apart.f kj131 a1_0 a1_1 a0_0 a0_1).bind fun t227 => (if (t227 == false) = true then (some (!false)) else (some false))) else (some false))) else (some false))) = some r := by rw [if_pos rfl] at H; exact H
                    clear H
                    have H := H1
                    clear H1
                    replace H := Option.bind_eq_some_iff.mp H
                    obtain ⟨t225, A1450, H⟩ := H
                    replace H : (if (t225 == x11_107) = true then ((span_Apart.f kj131 a0_0 a0_1 a1_0 a1_1).bind fun t226 => (if (t226 == false) = true then ((span_Apart.f kj131 a1_0 a1_1 a0_0 a0_1).bind fun t227 => (if (t227 == false) = true then (some (!false)) else (some false))) else (some false))) else (some false)) = some r := H
                    have A145 := Aside0.mk A1450
                    clear A1450
                    by_cases c146 : (t225 == x11_107) = true
                    ·rw [if_pos c146] at H
                     have c146b0 : (t225 == x11_107) = true := c146
                     (try (have c146b1 : decide (t225 = x11_107) = true := by simpa using c146))
                     (try (have c146b2 : (t225 == x11_107) = true := by simpa using c146))
                     clear c146
                     replace H := Option.bind_eq_some_iff.mp H
                     obtain ⟨t226, A1470, H⟩ := H
                     replace H : (if (t226 == false) = true then ((span_Apart.f kj131 a1_0 a1_1 a0_0 a0_1).bind fun t227 => (if (t227 == false) = true then (some (!false)) else (some false))) else (some false)) = some r := H
                     have A147 := Aside0.mk A1470
                     clear A1470
                     by_cases c148 : (t226 == false) = true
                     ·rw [if_pos c148] at H
                      have c148b0 : (t226 == false) = true := c148
                      (try (have c148b1 : decide (t226 = false) = true := by simpa using c148))
                      (try (have c148b2 : (t226 == false) = true := by simpa using c148))
                      clear c148
                      replace H := Option.bind_eq_some_iff.mp H
                      obtain ⟨t227, A1490, H⟩ := H
                      replace H : (if (t227 == false) = true then (some (!false)) else (some false)) = some r := H
                      have A149 := Aside0.mk A1490
                      clear A1490
                      by_cases c150 : (t227 == false) = true
                      ·rw [if_pos c150] at H
                       have c150b0 : (t227 == false) = true := c150
                       (try (have c150b1 : decide (t227 = false) = true := by simpa using c150))
                       (try (have c150b2 : (t227 == false) = true := by simpa using c150))
                       clear c150
                       obtain rfl := Option.some.inj H
                       have hnb151 := NB213_214.out
                       have hnc151 := NB214_213.out
                       have hnb152 := NB213_220.out
                       have hnc152 := NB220_213.out
                       have hcz153_0 : wc.cell? ⟨gb213, 0, none⟩ = some (.int .i64 a0_0) := (blk_cell BK213.out 0).trans rfl
                       have hcz153_1 : wc.cell? ⟨gb213, 1, none⟩ = some (.int .i64 a0_1) := (blk_cell BK213.out 1).trans rfl
                       have hfz153_0 := blk_frozen BK213.out 0
                       have hfz153_1 := blk_frozen BK213.out 1
                       have hnb154 := NB214_220.out
                       have hnc154 := NB220_214.out
                       have hcz155_0 : wc.cell? ⟨gb214, 0, none⟩ = some (.int .i64 a1_0) := (blk_cell BK214.out 0).trans rfl
                       have hcz155_1 : wc.cell? ⟨gb214, 1, none⟩ = some (.int .i64 a1_1) := (blk_cell BK214.out 1).trans rfl
                       have hfz155_0 := blk_frozen BK214.out 0
                       have hfz155_1 := blk_frozen BK214.out 1
                       go_wp2_with (first | (go_at_call 23; (with_reducible refine (span_Holds.calls kj131 a0_0 a0_1 a1_0 a1_1 t225 _ A145.out).mono ?_); rintro e w156 ⟨rfl, hb⟩; have n0_ := pxk BK213 hb; have n1_ := pxk BK214 hb; have n2_ := pxk BK220 hb; have n3_ := pxs HB hb; clear BK213; clear BK214; clear BK220; clear HB; have BK213 := n0_; have BK214 := n1_; have BK220 := n2_; have HB := n3_; clear n0_ n1_ n2_ n3_; (try clear hb); (try clear hb2); (try clear hk); (try clear hi); have hcz157_0 : w156.cell? ⟨gb213, 0, none⟩ = some (.int .i64 a0_0) := (blk_cell BK213.out 0).trans rfl; have hcz157_1 : w156.cell? ⟨gb213, 1, none⟩ = some (.int .i64 a0_1) := (blk_cell BK213.out 1).trans rfl; have hfz157_0 := blk_frozen BK213.out 0; have hfz157_1 := blk_frozen BK213.out 1; have hcz158_0 : w156.cell? ⟨gb214, 0, none⟩ = some (.int .i64 a1_0) := (blk_cell BK214.out 0).trans rfl; have hcz158_1 : w156.cell? ⟨gb214, 1, none⟩ = some (.int .i64 a1_1) := (blk_cell BK214.out 1).trans rfl; have hfz158_0 := blk_frozen BK214.out 0; have hfz158_1 := blk_frozen BK214.out 1) | (go_at_call 26; (with_reducible refine (span_Apart.calls kj131 a0_0 a0_1 a1_0 a1_1 t226 _ A147.out).mono ?_); rintro e w159 ⟨rfl, hb⟩; have n0_ := pxk BK213 hb; have n1_ := pxk BK214 hb; have n2_ := pxk BK220 hb; have n3_ := pxs HB hb; clear BK213; clear BK214; clear BK220; clear HB; have BK213 := n0_; have BK214 := n1_; have BK220 := n2_; have HB := n3_; clear n0_ n1_ n2_ n3_; (try clear hb); (try clear hb2); (try clear hk); (try clear hi); have hcz160_0 : w159.cell? ⟨gb214, 0, none⟩ = some (.int .i64 a1_0) := (blk_cell BK214.out 0).trans rfl; have hcz160_1 : w159.cell? ⟨gb214, 1, none⟩ = some (.int .i64 a1_1) := (blk_cell BK214.out 1).trans rfl; have hfz160_0 := blk_frozen BK214.out 0; have hfz160_1 := blk_frozen BK214.out 1; have hcz161_0 : w159.cell? ⟨gb213, 0, none⟩ = some (.int .i64 a0_0) := (blk_cell BK213.out 0).trans rfl; have hcz161_1 : w159.cell? ⟨gb213, 1, none⟩ = some (.int .i64 a0_1) := (blk_cell BK213.out 1).trans rfl; have hfz161_0 := blk_frozen BK213.out 0; have hfz161_1 := blk_frozen BK213.out 1) | (go_at_call 26; (with_reducible refine (span_Apart.calls kj131 a1_0 a1_1 a0_0 a0_1 t227 _ A149.out).mono ?_); rintro e w162 ⟨rfl, hb⟩; have n0_ := pxk BK213 hb; have n1_ := pxk BK214 hb; have n2_ := pxk BK220 hb; have n3_ := pxs HB hb; clear BK213; clear BK214; clear BK220; clear HB; have BK213 := n0_; have BK214 := n1_; have BK220 := n2_; have HB := n3_; clear n0_ n1_ n2_ n3_; (try clear hb); (try clear hb2); (try clear hk); (try clear hi)))
                       repeat (go_quiet (first | (go_at_call 23; (with_reducible refine (span_Holds.calls kj131 a0_0 a0_1 a1_0 a1_1 t225 _ A145.out).mono ?_); rintro e w156 ⟨rfl, hb⟩; have n0_ := pxk BK213 hb; have n1_ := pxk BK214 hb; have n2_ := pxk BK220 hb; have n3_ := pxs HB hb; clear BK213; clear BK214; clear BK220; clear HB; have BK213 := n0_; have BK214 := n1_; have BK220 := n2_; have HB := n3_; clear n0_ n1_ n2_ n3_; (try clear hb); (try clear hb2); (try clear hk); (try clear hi); have hcz157_0 : w156.cell? ⟨gb213, 0, none⟩ = some (.int .i64 a0_0) := (blk_cell BK213.out 0).trans rfl; have hcz157_1 : w156.cell? ⟨gb213, 1, none⟩ = some (.int .i64 a0_1) := (blk_cell BK213.out 1).trans rfl; have hfz157_0 := blk_frozen BK213.out 0; have hfz157_1 := blk_frozen BK213.out 1; have hcz158_0 : w156.cell? ⟨gb214, 0, none⟩ = some (.int .i64 a1_0) := (blk_cell BK214.out 0).trans rfl; have hcz158_1 : w156.cell? ⟨gb214, 1, none⟩ = some (.int .i64 a1_1) := (blk_cell BK214.out 1).trans rfl; have hfz158_0 := blk_frozen BK214.out 0; have hfz158_1 := blk_frozen BK214.out 1) | (go_at_call 26; (with_reducible refine (span_Apart.calls kj131 a0_0 a0_1 a1_0 a1_1 t226 _ A147.out).mono ?_); rintro e w159 ⟨rfl, hb⟩; have n0_ := pxk BK213 hb; have n1_ := pxk BK214 hb; have n2_ := pxk BK220 hb; have n3_ := pxs HB hb; clear BK213; clear BK214; clear BK220; clear HB; have BK213 := n0_; have BK214 := n1_; have BK220 := n2_; have HB := n3_; clear n0_ n1_ n2_ n3_; (try clear hb); (try clear hb2); (try clear hk); (try clear hi); have hcz160_0 : w159.cell? ⟨gb214, 0, none⟩ = some (.int .i64 a1_0) := (blk_cell BK214.out 0).trans rfl; have hcz160_1 : w159.cell? ⟨gb214, 1, none⟩ = some (.int .i64 a1_1) := (blk_cell BK214.out 1).trans rfl; have hfz160_0 := blk_frozen BK214.out 0; have hfz160_1 := blk_frozen BK214.out 1; have hcz161_0 : w159.cell? ⟨gb213, 0, none⟩ = some (.int .i64 a0_0) := (blk_cell BK213.out 0).trans rfl; have hcz161_1 : w159.cell? ⟨gb213, 1, none⟩ = some (.int .i64 a0_1) := (blk_cell BK213.out 1).trans rfl; have hfz161_0 := blk_frozen BK213.out 0; have hfz161_1 := blk_frozen BK213.out 1) | (go_at_call 26; (with_reducible refine (span_Apart.calls kj131 a1_0 a1_1 a0_0 a0_1 t227 _ A149.out).mono ?_); rintro e w162 ⟨rfl, hb⟩; have n0_ := pxk BK213 hb; have n1_ := pxk BK214 hb; have n2_ := pxk BK220 hb; have n3_ := pxs HB hb; clear BK213; clear BK214; clear BK220; clear HB; have BK213 := n0_; have BK214 := n1_; have BK220 := n2_; have HB := n3_; clear n0_ n1_ n2_ n3_; (try clear hb); (try clear hb2); (try clear hk); (try clear hi))); try go_wp2_with (first | (go_at_call 23; (with_reducible refine (span_Holds.calls kj131 a0_0 a0_1 a1_0 a1_1 t225 _ A145.out).mono ?_); rintro e w156 ⟨rfl, hb⟩; have n0_ := pxk BK213 hb; have n1_ := pxk BK214 hb; have n2_ := pxk BK220 hb; have n3_ := pxs HB hb; clear BK213; clear BK214; clear BK220; clear HB; have BK213 := n0_; have BK214 := n1_; have BK220 := n2_; have HB := n3_; clear n0_ n1_ n2_ n3_; (try clear hb); (try clear hb2); (try clear hk); (try clear hi); have hcz157_0 : w156.cell? ⟨gb213, 0, none⟩ = some (.int .i64 a0_0) := (blk_cell BK213.out 0).trans rfl; have hcz157_1 : w156.cell? ⟨gb213, 1, none⟩ = some (.int .i64 a0_1) := (blk_cell BK213.out 1).trans rfl; have hfz157_0 := blk_frozen BK213.out 0; have hfz157_1 := blk_frozen BK213.out 1; have hcz158_0 : w156.cell? ⟨gb214, 0, none⟩ = some (.int .i64 a1_0) := (blk_cell BK214.out 0).trans rfl; have hcz158_1 : w156.cell? ⟨gb214, 1, none⟩ = some (.int .i64 a1_1) := (blk_cell BK214.out 1).trans rfl; have hfz158_0 := blk_frozen BK214.out 0; have hfz158_1 := blk_frozen BK214.out 1) | (go_at_call 26; (with_reducible refine (span_Apart.calls kj131 a0_0 a0_1 a1_0 a1_1 t226 _ A147.out).mono ?_); rintro e w159 ⟨rfl, hb⟩; have n0_ := pxk BK213 hb; have n1_ := pxk BK214 hb; have n2_ := pxk BK220 hb; have n3_ := pxs HB hb; clear BK213; clear BK214; clear BK220; clear HB; have BK213 := n0_; have BK214 := n1_; have BK220 := n2_; have HB := n3_; clear n0_ n1_ n2_ n3_; (try clear hb); (try clear hb2); (try clear hk); (try clear hi); have hcz160_0 : w159.cell? ⟨gb214, 0, none⟩ = some (.int .i64 a1_0) := (blk_cell BK214.out 0).trans rfl; have hcz160_1 : w159.cell? ⟨gb214, 1, none⟩ = some (.int .i64 a1_1) := (blk_cell BK214.out 1).trans rfl; have hfz160_0 := blk_frozen BK214.out 0; have hfz160_1 := blk_frozen BK214.out 1; have hcz161_0 : w159.cell? ⟨gb213, 0, none⟩ = some (.int .i64 a0_0) := (blk_cell BK213.out 0).trans rfl; have hcz161_1 : w159.cell? ⟨gb213, 1, none⟩ = some (.int .i64 a0_1) := (blk_cell BK213.out 1).trans rfl; have hfz161_0 := blk_frozen BK213.out 0; have hfz161_1 := blk_frozen BK213.out 1) | (go_at_call 26; (with_reducible refine (span_Apart.calls kj131 a1_0 a1_1 a0_0 a0_1 t227 _ A149.out).mono ?_); rintro e w162 ⟨rfl, hb⟩; have n0_ := pxk BK213 hb; have n1_ := pxk BK214 hb; have n2_ := pxk BK220 hb; have n3_ := pxs HB hb; clear BK213; clear BK214; clear BK220; clear HB; have BK213 := n0_; have BK214 := n1_; have BK220 := n2_; have HB := n3_; clear n0_ n1_ n2_ n3_; (try clear hb); (try clear hb2); (try clear hk); (try clear hi))))
                       go_ret
                       exact ⟨by first | rfl | (simp [errW_none, errW_some] <;> rfl) | (simp only [← hji87, ← hji88]; first | rfl | (simp [errW_none, errW_some] <;> rfl)) | (simp [*, errW_none, errW_some] <;> rfl), pxb HB⟩
                      ·rw [if_neg c150] at H
                       have c150b0 : (t227 == false) = false := by simpa using c150
                       (try (have c150b1 : decide (t227 = false) = false := by simpa using c150))
                       (try (have c150b2 : (t227 == false) = false := by simpa using c150))
                       (try (have c150b3 : ¬ (t227 = false) := by simpa using c150))
                       clear c150
                       obtain rfl := Option.some.inj H
                       have hnb163 := NB213_214.out
                       have hnc163 := NB214_213.out
                       have hnb164 := NB213_220.out
                       have hnc164 := NB220_213.out
                       have hcz165_0 : wc.cell? ⟨gb213, 0, none⟩ = some (.int .i64 a0_0) := (blk_cell BK213.out 0).trans rfl
                       have hcz165_1 : wc.cell? ⟨gb213, 1, none⟩ = some (.int .i64 a0_1) := (blk_cell BK213.out 1).trans rfl
                       have hfz165_0 := blk_frozen BK213.out 0
                       have hfz165_1 := blk_frozen BK213.out 1
                       have hnb166 := NB214_220.out
                       have hnc166 := NB220_214.out
                       have hcz167_0 : wc.cell? ⟨gb214, 0, none⟩ = some (.int .i64 a1_0) := (blk_cell BK214.out 0).trans rfl
                       have hcz167_1 : wc.cell? ⟨gb214, 1, none⟩ = some (.int .i64 a1_1) := (blk_cell BK214.out 1).trans rfl
                       have hfz167_0 := blk_frozen BK214.out 0
                       have hfz167_1 := blk_frozen BK214.out 1
                       go_wp2_with (first | (go_at_call 23; (with_reducible refine (span_Holds.calls kj131 a0_0 a0_1 a1_0 a1_1 t225 _ A145.out).mono ?_); rintro e w168 ⟨rfl, hb⟩; have n0_ := pxk BK213 hb; have n1_ := pxk BK214 hb; have n2_ := pxk BK220 hb; have n3_ := pxs HB hb; clear BK213; clear BK214; clear BK220; clear HB; have BK213 := n0_; have BK214 := n1_; have BK220 := n2_; have HB := n3_; clear n0_ n1_ n2_ n3_; (try clear hb); (try clear hb2); (try clear hk); (try clear hi); have hcz169_0 : w168.cell? ⟨gb213, 0, none⟩ = some (.int .i64 a0_0) := (blk_cell BK213.out 0).trans rfl; have hcz169_1 : w168.cell? ⟨gb213, 1, none⟩ = some (.int .i64 a0_1) := (blk_cell BK213.out 1).trans rfl; have hfz169_0 := blk_frozen BK213.out 0; have hfz169_1 := blk_frozen BK213.out 1; have hcz170_0 : w168.cell? ⟨gb214, 0, none⟩ = some (.int .i64 a1_0) := (blk_cell BK214.out 0).trans rfl; have hcz170_1 : w168.cell? ⟨gb214, 1, none⟩ = some (.int .i64 a1_1) := (blk_cell BK214.out 1).trans rfl; have hfz170_0 := blk_frozen BK214.out 0; have hfz170_1 := blk_frozen BK214.out 1) | (go_at_call 26; (with_reducible refine (span_Apart.calls kj131 a0_0 a0_1 a1_0 a1_1 t226 _ A147.out).mono ?_); rintro e w171 ⟨rfl, hb⟩; have n0_ := pxk BK213 hb; have n1_ := pxk BK214 hb; have n2_ := pxk BK220 hb; have n3_ := pxs HB hb; clear BK213; clear BK214; clear BK220; clear HB; have BK213 := n0_; have BK214 := n1_; have BK220 := n2_; have HB := n3_; clear n0_ n1_ n2_ n3_; (try clear hb); (try clear hb2); (try clear hk); (try clear hi); have hcz172_0 : w171.cell? ⟨gb214, 0, none⟩ = some (.int .i64 a1_0) := (blk_cell BK214.out 0).trans rfl; have hcz172_1 : w171.cell? ⟨gb214, 1, none⟩ = some (.int .i64 a1_1) := (blk_cell BK214.out 1).trans rfl; have hfz172_0 := blk_frozen BK214.out 0; have hfz172_1 := blk_frozen BK214.out 1; have hcz173_0 : w171.cell? ⟨gb213, 0, none⟩ = some (.int .i64 a0_0) := (blk_cell BK213.out 0).trans rfl; have hcz173_1 : w171.cell? ⟨gb213, 1, none⟩ = some (.int .i64 a0_1) := (blk_cell BK213.out 1).trans rfl; have hfz173_0 := blk_frozen BK213.out 0; have hfz173_1 := blk_frozen BK213.out 1) | (go_at_call 26; (with_reducible refine (span_Apart.calls kj131 a1_0 a1_1 a0_0 a0_1 t227 _ A149.out).mono ?_); rintro e w174 ⟨rfl, hb⟩; have n0_ := pxk BK213 hb; have n1_ := pxk BK214 hb; have n2_ := pxk BK220 hb; have n3_ := pxs HB hb; clear BK213; clear BK214; clear BK220; clear HB; have BK213 := n0_; have BK214 := n1_; have BK220 := n2_; have HB := n3_; clear n0_ n1_ n2_ n3_; (try clear hb); (try clear hb2); (try clear hk); (try clear hi)))
                       repeat (go_quiet (first | (go_at_call 23; (with_reducible refine (span_Holds.calls kj131 a0_0 a0_1 a1_0 a1_1 t225 _ A145.out).mono ?_); rintro e w168 ⟨rfl, hb⟩; have n0_ := pxk BK213 hb; have n1_ := pxk BK214 hb; have n2_ := pxk BK220 hb; have n3_ := pxs HB hb; clear BK213; clear BK214; clear BK220; clear HB; have BK213 := n0_; have BK214 := n1_; have BK220 := n2_; have HB := n3_; clear n0_ n1_ n2_ n3_; (try clear hb); (try clear hb2); (try clear hk); (try clear hi); have hcz169_0 : w168.cell? ⟨gb213, 0, none⟩ = some (.int .i64 a0_0) := (blk_cell BK213.out 0).trans rfl; have hcz169_1 : w168.cell? ⟨gb213, 1, none⟩ = some (.int .i64 a0_1) := (blk_cell BK213.out 1).trans rfl; have hfz169_0 := blk_frozen BK213.out 0; have hfz169_1 := blk_frozen BK213.out 1; have hcz170_0 : w168.cell? ⟨gb214, 0, none⟩ = some (.int .i64 a1_0) := (blk_cell BK214.out 0).trans rfl; have hcz170_1 : w168.cell? ⟨gb214, 1, none⟩ = some (.int .i64 a1_1) := (blk_cell BK214.out 1).trans rfl; have hfz170_0 := blk_frozen BK214.out 0; have hfz170_1 := blk_frozen BK214.out 1) | (go_at_call 26; (with_reducible refine (span_Apart.calls kj131 a0_0 a0_1 a1_0 a1_1 t226 _ A147.out).mono ?_); rintro e w171 ⟨rfl, hb⟩; have n0_ := pxk BK213 hb; have n1_ := pxk BK214 hb; have n2_ := pxk BK220 hb; have n3_ := pxs HB hb; clear BK213; clear BK214; clear BK220; clear HB; have BK213 := n0_; have BK214 := n1_; have BK220 := n2_; have HB := n3_; clear n0_ n1_ n2_ n3_; (try clear hb); (try clear hb2); (try clear hk); (try clear hi); have hcz172_0 : w171.cell? ⟨gb214, 0, none⟩ = some (.int .i64 a1_0) := (blk_cell BK214.out 0).trans rfl; have hcz172_1 : w171.cell? ⟨gb214, 1, none⟩ = some (.int .i64 a1_1) := (blk_cell BK214.out 1).trans rfl; have hfz172_0 := blk_frozen BK214.out 0; have hfz172_1 := blk_frozen BK214.out 1; have hcz173_0 : w171.cell? ⟨gb213, 0, none⟩ = some (.int .i64 a0_0) := (blk_cell BK213.out 0).trans rfl; have hcz173_1 : w171.cell? ⟨gb213, 1, none⟩ = some (.int .i64 a0_1) := (blk_cell BK213.out 1).trans rfl; have hfz173_0 := blk_frozen BK213.out 0; have hfz173_1 := blk_frozen BK213.out 1) | (go_at_call 26; (with_reducible refine (span_Apart.calls kj131 a1_0 a1_1 a0_0 a0_1 t227 _ A149.out).mono ?_); rintro e w174 ⟨rfl, hb⟩; have n0_ := pxk BK213 hb; have n1_ := pxk BK214 hb; have n2_ := pxk BK220 hb; have n3_ := pxs HB hb; clear BK213; clear BK214; clear BK220; clear HB; have BK213 := n0_; have BK214 := n1_; have BK220 := n2_; have HB := n3_; clear n0_ n1_ n2_ n3_; (try clear hb); (try clear hb2); (try clear hk); (try clear hi))); try go_wp2_with (first | (go_at_call 23; (with_reducible refine (span_Holds.calls kj131 a0_0 a0_1 a1_0 a1_1 t225 _ A145.out).mono ?_); rintro e w168 ⟨rfl, hb⟩; have n0_ := pxk BK213 hb; have n1_ := pxk BK214 hb; have n2_ := pxk BK220 hb; have n3_ := pxs HB hb; clear BK213; clear BK214; clear BK220; clear HB; have BK213 := n0_; have BK214 := n1_; have BK220 := n2_; have HB := n3_; clear n0_ n1_ n2_ n3_; (try clear hb); (try clear hb2); (try clear hk); (try clear hi); have hcz169_0 : w168.cell? ⟨gb213, 0, none⟩ = some (.int .i64 a0_0) := (blk_cell BK213.out 0).trans rfl; have hcz169_1 : w168.cell? ⟨gb213, 1, none⟩ = some (.int .i64 a0_1) := (blk_cell BK213.out 1).trans rfl; have hfz169_0 := blk_frozen BK213.out 0; have hfz169_1 := blk_frozen BK213.out 1; have hcz170_0 : w168.cell? ⟨gb214, 0, none⟩ = some (.int .i64 a1_0) := (blk_cell BK214.out 0).trans rfl; have hcz170_1 : w168.cell? ⟨gb214, 1, none⟩ = some (.int .i64 a1_1) := (blk_cell BK214.out 1).trans rfl; have hfz170_0 := blk_frozen BK214.out 0; have hfz170_1 := blk_frozen BK214.out 1) | (go_at_call 26; (with_reducible refine (span_Apart.calls kj131 a0_0 a0_1 a1_0 a1_1 t226 _ A147.out).mono ?_); rintro e w171 ⟨rfl, hb⟩; have n0_ := pxk BK213 hb; have n1_ := pxk BK214 hb; have n2_ := pxk BK220 hb; have n3_ := pxs HB hb; clear BK213; clear BK214; clear BK220; clear HB; have BK213 := n0_; have BK214 := n1_; have BK220 := n2_; have HB := n3_; clear n0_ n1_ n2_ n3_; (try clear hb); (try clear hb2); (try clear hk); (try clear hi); have hcz172_0 : w171.cell? ⟨gb214, 0, none⟩ = some (.int .i64 a1_0) := (blk_cell BK214.out 0).trans rfl; have hcz172_1 : w171.cell? ⟨gb214, 1, none⟩ = some (.int .i64 a1_1) := (blk_cell BK214.out 1).trans rfl; have hfz172_0 := blk_frozen BK214.out 0; have hfz172_1 := blk_frozen BK214.out 1; have hcz173_0 : w171.cell? ⟨gb213, 0, none⟩ = some (.int .i64 a0_0) := (blk_cell BK213.out 0).trans rfl; have hcz173_1 : w171.cell? ⟨gb213, 1, none⟩ = some (.int .i64 a0_1) := (blk_cell BK213.out 1).trans rfl; have hfz173_0 := blk_frozen BK213.out 0; have hfz173_1 := blk_frozen BK213.out 1) | (go_at_call 26; (with_reducible refine (span_Apart.calls kj131 a1_0 a1_1 a0_0 a0_1 t227 _ A149.out).mono ?_); rintro e w174 ⟨rfl, hb⟩; have n0_ := pxk BK213 hb; have n1_ := pxk BK214 hb; have n2_ := pxk BK220 hb; have n3_ := pxs HB hb; clear BK213; clear BK214; clear BK220; clear HB; have BK213 := n0_; have BK214 := n1_; have BK220 := n2_; have HB := n3_; clear n0_ n1_ n2_ n3_; (try clear hb); (try clear hb2); (try clear hk); (try clear hi))))
                       go_ret
                       exact ⟨by first | rfl | (simp [errW_none, errW_some] <;> rfl) | (simp only [← hji87, ← hji88]; first | rfl | (simp [errW_none, errW_some] <;> rfl)) | (simp [*, errW_none, errW_some] <;> rfl), pxb HB⟩
                     ·rw [if_neg c148] at H
                      have c148b0 : (t226 == false) = false := by simpa using c148
                      (try (have c148b1 : decide (t226 = false) = false := by simpa using c148))
                      (try (have c148b2 : (t226 == false) = false := by simpa using c148))
                      (try (have c148b3 : ¬ (t226 = false) := by simpa using c148))
                      clear c148
                      obtain rfl := Option.some.inj H
                      have hnb175 := NB213_214.out
                      have hnc175 := NB214_213.out
                      have hnb176 := NB213_220.out
                      have hnc176 := NB220_213.out
                      have hcz177_0 : wc.cell? ⟨gb213, 0, none⟩ = some (.int .i64 a0_0) := (blk_cell BK213.out 0).trans rfl
                      have hcz177_1 : wc.cell? ⟨gb213, 1, none⟩ = some (.int .i64 a0_1) := (blk_cell BK213.out 1).trans rfl
                      have hfz177_0 := blk_frozen BK213.out 0
                      have hfz177_1 := blk_frozen BK213.out 1
                      have hnb178 := NB214_220.out
                      have hnc178 := NB220_214.out
                      have hcz179_0 : wc.cell? ⟨gb214, 0, none⟩ = some (.int .i64 a1_0) := (blk_cell BK214.out 0).trans rfl
                      have hcz179_1 : wc.cell? ⟨gb214, 1, none⟩ = some (.int .i64 a1_1) := (blk_cell BK214.out 1).trans rfl
                      have hfz179_0 := blk_frozen BK214.out 0
                      have hfz179_1 := blk_frozen BK214.out 1
                      go_wp2_with (first | (go_at_call 23; (with_reducible refine (span_Holds.calls kj131 a0_0 a0_1 a1_0 a1_1 t225 _ A145.out).mono ?_); rintro e w180 ⟨rfl, hb⟩; have n0_ := pxk BK213 hb; have n1_ := pxk BK214 hb; have n2_ := pxk BK220 hb; have n3_ := pxs HB hb; clear BK213; clear BK214; clear BK220; clear HB; have BK213 := n0_; have BK214 := n1_; have BK220 := n2_; have HB := n3_; clear n0_ n1_ n2_ n3_; (try clear hb); (try clear hb2); (try clear hk); (try clear hi); have hcz181_0 : w180.cell? ⟨gb213, 0, none⟩ = some (.int .i64 a0_0) := (blk_cell BK213.out 0).trans rfl; have hcz181_1 : w180.cell? ⟨gb213, 1, none⟩ = some (.int .i64 a0_1) := (blk_cell BK213.out 1).trans rfl; have hfz181_0 := blk_frozen BK213.out 0; have hfz181_1 := blk_frozen BK213.out 1; have hcz182_0 : w180.cell? ⟨gb214, 0, none⟩ = some (.int .i64 a1_0) := (blk_cell BK214.out 0).trans rfl; have hcz182_1 : w180.cell? ⟨gb214, 1, none⟩ = some (.int .i64 a1_1) := (blk_cell BK214.out 1).trans rfl; have hfz182_0 := blk_frozen BK214.out 0; have hfz182_1 := blk_frozen BK214.out 1) | (go_at_call 26; (with_reducible refine (span_Apart.calls kj131 a0_0 a0_1 a1_0 a1_1 t226 _ A147.out).mono ?_); rintro e w183 ⟨rfl, hb⟩; have n0_ := pxk BK213 hb; have n1_ := pxk BK214 hb; have n2_ := pxk BK220 hb; have n3_ := pxs HB hb; clear BK213; clear BK214; clear BK220; clear HB; have BK213 := n0_; have BK214 := n1_; have BK220 := n2_; have HB := n3_; clear n0_ n1_ n2_ n3_; (try clear hb); (try clear hb2); (try clear hk); (try clear hi)))
                      repeat (go_quiet (first | (go_at_call 23; (with_reducible refine (span_Holds.calls kj131 a0_0 a0_1 a1_0 a1_1 t225 _ A145.out).mono ?_); rintro e w180 ⟨rfl, hb⟩; have n0_ := pxk BK213 hb; have n1_ := pxk BK214 hb; have n2_ := pxk BK220 hb; have n3_ := pxs HB hb; clear BK213; clear BK214; clear BK220; clear HB; have BK213 := n0_; have BK214 := n1_; have BK220 := n2_; have HB := n3_; clear n0_ n1_ n2_ n3_; (try clear hb); (try clear hb2); (try clear hk); (try clear hi); have hcz181_0 : w180.cell? ⟨gb213, 0, none⟩ = some (.int .i64 a0_0) := (blk_cell BK213.out 0).trans rfl; have hcz181_1 : w180.cell? ⟨gb213, 1, none⟩ = some (.int .i64 a0_1) := (blk_cell BK213.out 1).trans rfl; have hfz181_0 := blk_frozen BK213.out 0; have hfz181_1 := blk_frozen BK213.out 1; have hcz182_0 : w180.cell? ⟨gb214, 0, none⟩ = some (.int .i64 a1_0) := (blk_cell BK214.out 0).trans rfl; have hcz182_1 : w180.cell? ⟨gb214, 1, none⟩ = some (.int .i64 a1_1) := (blk_cell BK214.out 1).trans rfl; have hfz182_0 := blk_frozen BK214.out 0; have hfz182_1 := blk_frozen BK214.out 1) | (go_at_call 26; (with_reducible refine (span_Apart.calls kj131 a0_0 a0_1 a1_0 a1_1 t226 _ A147.out).mono ?_); rintro e w183 ⟨rfl, hb⟩; have n0_ := pxk BK213 hb; have n1_ := pxk BK214 hb; have n2_ := pxk BK220 hb; have n3_ := pxs HB hb; clear BK213; clear BK214; clear BK220; clear HB; have BK213 := n0_; have BK214 := n1_; have BK220 := n2_; have HB := n3_; clear n0_ n1_ n2_ n3_; (try clear hb); (try clear hb2); (try clear hk); (try clear hi))); try go_wp2_with (first | (go_at_call 23; (with_reducible refine (span_Holds.calls kj131 a0_0 a0_1 a1_0 a1_1 t225 _ A145.out).mono ?_); rintro e w180 ⟨rfl, hb⟩; have n0_ := pxk BK213 hb; have n1_ := pxk BK214 hb; have n2_ := pxk BK220 hb; have n3_ := pxs HB hb; clear BK213; clear BK214; clear BK220; clear HB; have BK213 := n0_; have BK214 := n1_; have BK220 := n2_; have HB := n3_; clear n0_ n1_ n2_ n3_; (try clear hb); (try clear hb2); (try clear hk); (try clear hi); have hcz181_0 : w180.cell? ⟨gb213, 0, none⟩ = some (.int .i64 a0_0) := (blk_cell BK213.out 0).trans rfl; have hcz181_1 : w180.cell? ⟨gb213, 1, none⟩ = some (.int .i64 a0_1) := (blk_cell BK213.out 1).trans rfl; have hfz181_0 := blk_frozen BK213.out 0; have hfz181_1 := blk_frozen BK213.out 1; have hcz182_0 : w180.cell? ⟨gb214, 0, none⟩ = some (.int .i64 a1_0) := (blk_cell BK214.out 0).trans rfl; have hcz182_1 : w180.cell? ⟨gb214, 1, none⟩ = some (.int .i64 a1_1) := (blk_cell BK214.out 1).trans rfl; have hfz182_0 := blk_frozen BK214.out 0; have hfz182_1 := blk_frozen BK214.out 1) | (go_at_call 26; (with_reducible refine (span_Apart.calls kj131 a0_0 a0_1 a1_0 a1_1 t226 _ A147.out).mono ?_); rintro e w183 ⟨rfl, hb⟩; have n0_ := pxk BK213 hb; have n1_ := pxk BK214 hb; have n2_ := pxk BK220 hb; have n3_ := pxs HB hb; clear BK213; clear BK214; clear BK220; clear HB; have BK213 := n0_; have BK214 := n1_; have BK220 := n2_; have HB := n3_; clear n0_ n1_ n2_ n3_; (try clear hb); (try clear hb2); (try clear hk); (try clear hi))))
                      go_ret
                      exact ⟨by first | rfl | (simp [errW_none, errW_some] <;> rfl) | (simp only [← hji87, ← hji88]; first | rfl | (simp [errW_none, errW_some] <;> rfl)) | (simp [*, errW_none, errW_some] <;> rfl), pxb HB⟩
                    ·rw [if_neg c146] at H
                     have c146b0 : (t225 == x11_107) = false := by simpa using c146
                     (try (have c146b1 : decide (t225 = x11_107) = false := by simpa using c146))
                     (try (have c146b2 : (t225 == x11_107) = false := by simpa using c146))
                     (try (have c146b3 : ¬ (t225 = x11_107) := by simpa using c146))
                     clear c146
                     obtain rfl := Option.some.inj H
                     have hnb184 := NB213_214.out
                     have hnc184 := NB214_213.out
                     have hnb185 := NB213_220.out
                     have hnc185 := NB220_213.out
                     have hcz186_0 : wc.cell? ⟨gb213, 0, none⟩ = some (.int .i64 a0_0) := (blk_cell BK213.out 0).trans rfl
                     have hcz186_1 : wc.cell? ⟨gb213, 1, none⟩ = some (.int .i64 a0_1) := (blk_cell BK213.out 1).trans rfl
                     have hfz186_0 := blk_frozen BK213.out 0
                     have hfz186_1 := blk_frozen BK213.out 1
                     have hnb187 := NB214_220.out
                     have hnc187 := NB220_214.out
                     have hcz188_0 : wc.cell? ⟨gb214, 0, none⟩ = some (.int .i64 a1_0) := (blk_cell BK214.out 0).trans rfl
                     have hcz188_1 : wc.cell? ⟨gb214, 1, none⟩ = some (.int .i64 a1_1) := (blk_cell BK214.out 1).trans rfl
                     have hfz188_0 := blk_frozen BK214.out 0
                     have hfz188_1 := blk_frozen BK214.out 1
                     go_wp2_with (first | (go_at_call 23; (with_reducible refine (span_Holds.calls kj131 a0_0 a0_1 a1_0 a1_1 t225 _ A145.out).mono ?_); rintro e w189 ⟨rfl, hb⟩; have n0_ := pxk BK213 hb; have n1_ := pxk BK214 hb; have n2_ := pxk BK220 hb; have n3_ := pxs HB hb; clear BK213; clear BK214; clear BK220; clear HB; have BK213 := n0_; have BK214 := n1_; have BK220 := n2_; have HB := n3_; clear n0_ n1_ n2_ n3_; (try clear hb); (try clear hb2); (try clear hk); (try clear hi)))
                     repeat (go_quiet (first | (go_at_call 23; (with_reducible refine (span_Holds.calls kj131 a0_0 a0_1 a1_0 a1_1 t225 _ A145.out).mono ?_); rintro e w189 ⟨rfl, hb⟩; have n0_ := pxk BK213 hb; have n1_ := pxk BK214 hb; have n2_ := pxk BK220 hb; have n3_ := pxs HB hb; clear BK213; clear BK214; clear BK220; clear HB; have BK213 := n0_; have BK214 := n1_; have BK220 := n2_; have HB := n3_; clear n0_ n1_ n2_ n3_; (try clear hb); (try clear hb2); (try clear hk); (try clear hi))); try go_wp2_with (first | (go_at_call 23; (with_reducible refine (span_Holds.calls kj131 a0_0 a0_1 a1_0 a1_1 t225 _ A145.out).mono ?_); rintro e w189 ⟨rfl, hb⟩; have n0_ := pxk BK213 hb; have n1_ := pxk BK214 hb; have n2_ := pxk BK220 hb; have n3_ := pxs HB hb; clear BK213; clear BK214; clear BK220; clear HB; have BK213 := n0_; have BK214 := n1_; have BK220 := n2_; have HB := n3_; clear n0_ n1_ n2_ n3_; (try clear hb); (try clear hb2); (try clear hk); (try clear hi))))
                     go_ret
                     exact ⟨by first | rfl | (simp [errW_none, errW_some] <;> rfl) | (simp only [← hji87, ← hji88]; first | rfl | (simp [errW_none, errW_some] <;> rfl)) | (simp [*, errW_none, errW_some] <;> rfl), pxb HB⟩
                   ·replace c144 := Bool.eq_false_iff.mpr c144
                    subst c144
                    have H1 : ((span_Holds.f kj131 a0_0 a0_1 a1_0 a1_1).bind fun t228 => (if (t228 == x11_107) = true then ((span_Apart.f kj131 a0_0 a0_1 a1_0 a1_1).bind fun t229 => (if (t229 == x12_119) = true then ((span_Apart.f kj131 a1_0 a1_1 a0_0 a0_1).bind fun t230 => (if (t230 == x12_119) = true then (if x12_119 = true then (some (!t219)) else (some (!false))) else (some false))) else (some false))) else (some false))) = some r := by rw [if_neg (show ¬ (false = true) by decide)] at H; exact H
                    clear H
                    have H := H1
                    clear H1
                    replace H := Option.bind_eq_some_iff.mp H
                    obtain ⟨t228, A1900, H⟩ := H
                    replace H : (if (t228 == x11_107) = true then ((span_Apart.f kj131 a0_0 a0_1 a1_0 a1_1).bind fun t229 => (if (t229 == x12_119) = true then ((span_Apart.f kj131 a1_0 a1_1 a0_0 a0_1).bind fun t230 => (if (t230 == x12_119) = true then (if x12_119 = true then (some (!t219)) else (some (!false))) else (some false))) else (some false))) else (some false)) = some r := H
                    have A190 := Aside0.mk A1900
                    clear A1900
                    by_cases c191 : (t228 == x11_107) = true
                    ·rw [if_pos c191] at H
                     have c191b0 : (t228 == x11_107) = true := c191
                     (try (have c191b1 : decide (t228 = x11_107) = true := by simpa using c191))
                     (try (have c191b2 : (t228 == x11_107) = true := by simpa using c191))
                     clear c191
                     replace H := Option.bind_eq_some_iff.mp H
                     obtain ⟨t229, A1920, H⟩ := H
                     replace H : (if (t229 == x12_119) = true then ((span_Apart.f kj131 a1_0 a1_1 a0_0 a0_1).bind fun t230 => (if (t230 == x12_119) = true then (if x12_119 = true then (some (!t219)) else (some (!false))) else (some false))) else (some false)) = some r := H
                     have A192 := Aside0.mk A1920
                     clear A1920
                     by_cases c193 : (t229 == x12_119) = true
                     ·rw [if_pos c193] at H
                      have c193b0 : (t229 == x12_119) = true := c193
                      (try (have c193b1 : decide (t229 = x12_119) = true := by simpa using c193))
                      (try (have c193b2 : (t229 == x12_119) = true := by simpa using c193))
                      clear c193
                      replace H := Option.bind_eq_some_iff.mp H
                      obtain ⟨t230, A1940, H⟩ := H
                      replace H : (if (t230 == x12_119) = true then (if x12_119 = true then (some (!t219)) else (some (!false))) else (some false)) = some r := H
                      have A194 := Aside0.mk A1940
                      clear A1940
                      by_cases c195 : (t230 == x12_119) = true
                      ·rw [if_pos c195] at H
                       have c195b0 : (t230 == x12_119) = true := c195
                       (try (have c195b1 : decide (t230 = x12_119) = true := by simpa using c195))
                       (try (have c195b2 : (t230 == x12_119) = true := by simpa using c195))
                       clear c195
                       by_cases c196 : x12_119 = true
                       ·subst c196
                        have H1 : (some (!t219)) = some r := by rw [if_pos rfl] at H; exact H
                        clear H
                        have H := H1
                        clear H1
                        obtain rfl := Option.some.inj H
                        have hnb197 := NB213_214.out
                        have hnc197 := NB214_213.out
                        have hnb198 := NB213_220.out
                        have hnc198 := NB220_213.out
                        have hcz199_0 : wc.cell? ⟨gb213, 0, none⟩ = some (.int .i64 a0_0) := (blk_cell BK213.out 0).trans rfl
                        have hcz199_1 : wc.cell? ⟨gb213, 1, none⟩ = some (.int .i64 a0_1) := (blk_cell BK213.out 1).trans rfl
                        have hfz199_0 := blk_frozen BK213.out 0
                        have hfz199_1 := blk_frozen BK213.out 1
                        have hnb200 := NB214_220.out
                        have hnc200 := NB220_214.out
                        have hcz201_0 : wc.cell? ⟨gb214, 0, none⟩ = some (.int .i64 a1_0) := (blk_cell BK214.out 0).trans rfl
                        have hcz201_1 : wc.cell? ⟨gb214, 1, none⟩ = some (.int .i64 a1_1) := (blk_cell BK214.out 1).trans rfl
                        have hfz201_0 := blk_frozen BK214.out 0
                        have hfz201_1 := blk_frozen BK214.out 1
                        go_wp2_with (first | (go_at_call 23; (with_reducible refine (span_Holds.calls kj131 a0_0 a0_1 a1_0 a1_1 t228 _ A190.out).mono ?_); rintro e w202 ⟨rfl, hb⟩; have n0_ := pxk BK213 hb; have n1_ := pxk BK214 hb; have n2_ := pxk BK220 hb; have n3_ := pxs HB hb; clear BK213; clear BK214; clear BK220; clear HB; have BK213 := n0_; have BK214 := n1_; have BK220 := n2_; have HB := n3_; clear n0_ n1_ n2_ n3_; (try clear hb); (try clear hb2); (try clear hk); (try clear hi); have hcz203_0 : w202.cell? ⟨gb213, 0, none⟩ = some (.int .i64 a0_0) := (blk_cell BK213.out 0).trans rfl; have hcz203_1 : w202.cell? ⟨gb213, 1, none⟩ = some (.int .i64 a0_1) := (blk_cell BK213.out 1).trans rfl; have hfz203_0 := blk_frozen BK213.out 0; have hfz203_1 := blk_frozen BK213.out 1; have hcz204_0 : w202.cell? ⟨gb214, 0, none⟩ = some (.int .i64 a1_0) := (blk_cell BK214.out 0).trans rfl; have hcz204_1 : w202.cell? ⟨gb214, 1, none⟩ = some (.int .i64 a1_1) := (blk_cell BK214.out 1).trans rfl; have hfz204_0 := blk_frozen BK214.out 0; have hfz204_1 := blk_frozen BK214.out 1) | (go_at_call 26; (with_reducible refine (span_Apart.calls kj131 a0_0 a0_1 a1_0 a1_1 t229 _ A192.out).mono ?_); rintro e w205 ⟨rfl, hb⟩; have n0_ := pxk BK213 hb; have n1_ := pxk BK214 hb; have n2_ := pxk BK220 hb; have n3_ := pxs HB hb; clear BK213; clear BK214; clear BK220; clear HB; have BK213 := n0_; have BK214 := n1_; have BK220 := n2_; have HB := n3_; clear n0_ n1_ n2_ n3_; (try clear hb); (try clear hb2); (try clear hk); (try clear hi); have hcz206_0 : w205.cell? ⟨gb214, 0, none⟩ = some (.int .i64 a1_0) := (blk_cell BK214.out 0).trans rfl; have hcz206_1 : w205.cell? ⟨gb214, 1, none⟩ = some (.int .i64 a1_1) := (blk_cell BK214.out 1).trans rfl; have hfz206_0 := blk_frozen BK214.out 0; have hfz206_1 := blk_frozen BK214.out 1; have hcz207_0 : w205.cell? ⟨gb213, 0, none⟩ = some (.int .i64 a0_0) := (blk_cell BK213.out 0).trans rfl; have hcz207_1 : w205.cell? ⟨gb213, 1, none⟩ = some (.int .i64 a0_1) := (blk_cell BK213.out 1).trans rfl; have hfz207_0 := blk_frozen BK213.out 0; have hfz207_1 := blk_frozen BK213.out 1) | (go_at_call 26; (with_reducible refine (span_Apart.calls kj131 a1_0 a1_1 a0_0 a0_1 t230 _ A194.out).mono ?_); rintro e w208 ⟨rfl, hb⟩; have n0_ := pxk BK213 hb; have n1_ := pxk BK214 hb; have n2_ := pxk BK220 hb; have n3_ := pxs HB hb; clear BK213; clear BK214; clear BK220; clear HB; have BK213 := n0_; have BK214 := n1_; have BK220 := n2_; have HB := n3_; clear n0_ n1_ n2_ n3_; (try clear hb); (try clear hb2); (try clear hk); (try clear hi)))
                        repeat (go_quiet (first | (go_at_call 23; (with_reducible refine (span_Holds.calls kj131 a0_0 a0_1 a1_0 a1_1 t228 _ A190.out).mono ?_); rintro e w202 ⟨rfl, hb⟩; have n0_ := pxk BK213 hb; have n1_ := pxk BK214 hb; have n2_ := pxk BK220 hb; have n3_ := pxs HB hb; clear BK213; clear BK214; clear BK220; clear HB; have BK213 := n0_; have BK214 := n1_; have BK220 := n2_; have HB := n3_; clear n0_ n1_ n2_ n3_; (try clear hb); (try clear hb2); (try clear hk); (try clear hi); have hcz203_0 : w202.cell? ⟨gb213, 0, none⟩ = some (.int .i64 a0_0) := (blk_cell BK213.out 0).trans rfl; have hcz203_1 : w202.cell? ⟨gb213, 1, none⟩ = some (.int .i64 a0_1) := (blk_cell BK213.out 1).trans rfl; have hfz203_0 := blk_frozen BK213.out 0; have hfz203_1 := blk_frozen BK213.out 1; have hcz204_0 : w202.cell? ⟨gb214, 0, none⟩ = some (.int .i64 a1_0) := (blk_cell BK214.out 0).trans rfl; have hcz204_1 : w202.cell? ⟨gb214, 1, none⟩ = some (.int .i64 a1_1) := (blk_cell BK214.out 1).trans rfl; have hfz204_0 := blk_frozen BK214.out 0; have hfz204_1 := blk_frozen BK214.out 1) | (go_at_call 26; (with_reducible refine (span_Apart.calls kj131 a0_0 a0_1 a1_0 a1_1 t229 _ A192.out).mono ?_); rintro e w205 ⟨rfl, hb⟩; have n0_ := pxk BK213 hb; have n1_ := pxk BK214 hb; have n2_ := pxk BK220 hb; have n3_ := pxs HB hb; clear BK213; clear BK214; clear BK220; clear HB; have BK213 := n0_; have BK214 := n1_; have BK220 := n2_; have HB := n3_; clear n0_ n1_ n2_ n3_; (try clear hb); (try clear hb2); (try clear hk); (try clear hi); have hcz206_0 : w205.cell? ⟨gb214, 0, none⟩ = some (.int .i64 a1_0) := (blk_cell BK214.out 0).trans rfl; have hcz206_1 : w205.cell? ⟨gb214, 1, none⟩ = some (.int .i64 a1_1) := (blk_cell BK214.out 1).trans rfl; have hfz206_0 := blk_frozen BK214.out 0; have hfz206_1 := blk_frozen BK214.out 1; have hcz207_0 : w205.cell? ⟨gb213, 0, none⟩ = some (.int .i64 a0_0) := (blk_cell BK213.out 0).trans rfl; have hcz207_1 : w205.cell? ⟨gb213, 1, none⟩ = some (.int .i64 a0_1) := (blk_cell BK213.out 1).trans rfl; have hfz207_0 := blk_frozen BK213.out 0; have hfz207_1 := blk_frozen BK213.out 1) | (go_at_call 26; (with_reducible refine (span_Apart.calls kj131 a1_0 a1_1 a0_0 a0_1 t230 _ A194.out).mono ?_); rintro e w208 ⟨rfl, hb⟩; have n0_ := pxk BK213 hb; have n1_ := pxk BK214 hb; have n2_ := pxk BK220 hb; have n3_ := pxs HB hb; clear BK213; clear BK214; clear BK220; clear HB; have BK213 := n0_; have BK214 := n1_; have BK220 := n2_; have HB := n3_; clear n0_ n1_ n2_ n3_; (try clear hb); (try clear hb2); (try clear hk); (try clear hi))); try go_wp2_with (first | (go_at_call 23; (with_reducible refine (span_Holds.calls kj131 a0_0 a0_1 a1_0 a1_1 t228 _ A190.out).mono ?_); rintro e w202 ⟨rfl, hb⟩; have n0_ := pxk BK213 hb; have n1_ := pxk BK214 hb; have n2_ := pxk BK220 hb; have n3_ := pxs HB hb; clear BK213; clear BK214; clear BK220; clear HB; have BK213 := n0_; have BK214 := n1_; have BK220 := n2_; have HB := n3_; clear n0_ n1_ n2_ n3_; (try clear hb); (try clear hb2); (try clear hk); (try clear hi); have hcz203_0 : w202.cell? ⟨gb213, 0, none⟩ = some (.int .i64 a0_0) := (blk_cell BK213.out 0).trans rfl; have hcz203_1 : w202.cell? ⟨gb213, 1, none⟩ = some (.int .i64 a0_1) := (blk_cell BK213.out 1).trans rfl; have hfz203_0 := blk_frozen BK213.out 0; have hfz203_1 := blk_frozen BK213.out 1; have hcz204_0 : w202.cell? ⟨gb214, 0, none⟩ = some (.int .i64 a1_0) := (blk_cell BK214.out 0).trans rfl; have hcz204_1 : w202.cell? ⟨gb214, 1, none⟩ = some (.int .i64 a1_1) := (blk_cell BK214.out 1).trans rfl; have hfz204_0 := blk_frozen BK214.out 0; have hfz204_1 := blk_frozen BK214.out 1) | (go_at_call 26; (with_reducible refine (span_Apart.calls kj131 a0_0 a0_1 a1_0 a1_1 t229 _ A192.out).mono ?_); rintro e w205 ⟨rfl, hb⟩; have n0_ := pxk BK213 hb; have n1_ := pxk BK214 hb; have n2_ := pxk BK220 hb; have n3_ := pxs HB hb; clear BK213; clear BK214; clear BK220; clear HB; have BK213 := n0_; have BK214 := n1_; have BK220 := n2_; have HB := n3_; clear n0_ n1_ n2_ n3_; (try clear hb); (try clear hb2); (try clear hk); (try clear hi); have hcz206_0 : w205.cell? ⟨gb214, 0, none⟩ = some (.int .i64 a1_0) := (blk_cell BK214.out 0).trans rfl; have hcz206_1 : w205.cell? ⟨gb214, 1, none⟩ = some (.int .i64 a1_1) := (blk_cell BK214.out 1).trans rfl; have hfz206_0 := blk_frozen BK214.out 0; have hfz206_1 := blk_frozen BK214.out 1; have hcz207_0 : w205.cell? ⟨gb213, 0, none⟩ = some (.int .i64 a0_0) := (blk_cell BK213.out 0).trans rfl; have hcz207_1 : w205.cell? ⟨gb213, 1, none⟩ = some (.int .i64 a0_1) := (blk_cell BK213.out 1).trans rfl; have hfz207_0 := blk_frozen BK213.out 0; have hfz207_1 := blk_frozen BK213.out 1) | (go_at_call 26; (with_reducible refine (span_Apart.calls kj131 a1_0 a1_1 a0_0 a0_1 t230 _ A194.out).mono ?_); rintro e w208 ⟨rfl, hb⟩; have n0_ := pxk BK213 hb; have n1_ := pxk BK214 hb; have n2_ := pxk BK220 hb; have n3_ := pxs HB hb; clear BK213; clear BK214; clear BK220; clear HB; have BK213 := n0_; have BK214 := n1_; have BK220 := n2_; have HB := n3_; clear n0_ n1_ n2_ n3_; (try clear hb); (try clear hb2); (try clear hk); (try clear hi))))
                        go_ret
                        exact ⟨by first | rfl | (simp [errW_none, errW_some] <;> rfl) | (simp only [← hji87, ← hji88]; first | rfl | (simp [errW_none, errW_some] <;> rfl)) | (simp [*, errW_none, errW_some] <;> rfl), pxb HB⟩
                       ·replace c196 := Bool.eq_false_iff.mpr c196
                        subst c196
                        have H1 : (some (!false)) = some r := by rw [if_neg (show ¬ (false = true) by decide)] at H; exact H
                        clear H
                        have H := H1
                        clear H1
                        obtain rfl := Option.some.inj H
                        have hnb209 := NB213_214.out
                        have hnc209 := NB214_213.out
                        have hnb210 := NB213_220.out
                        have hnc210 := NB220_213.out
                        have hcz211_0 : wc.cell? ⟨gb213, 0, none⟩ = some (.int .i64 a0_0) := (blk_cell BK213.out 0).trans rfl
                        have hcz211_1 : wc.cell? ⟨gb213, 1, none⟩ = some (.int .i64 a0_1) := (blk_cell BK213.out 1).trans rfl
                        have hfz211_0 := blk_frozen BK213.out 0
                        have hfz211_1 := blk_frozen BK213.out 1
                        have hnb212 := NB214_220.out
                        have hnc212 := NB220_214.out
                        have hcz213_0 : wc.cell? ⟨gb214, 0, none⟩ = some (.int .i64 a1_0) := (blk_cell BK214.out 0).trans rfl
                        have hcz213_1 : wc.cell? ⟨gb214, 1, none⟩ = some (.int .i64 a1_1) := (blk_cell BK214.out 1).trans rfl
                        have hfz213_0 := blk_frozen BK214.out 0
                        have hfz213_1 := blk_frozen BK214.out 1
                        go_wp2_with (first | (go_at_call 23; (with_reducible refine (span_Holds.calls kj131 a0_0 a0_1 a1_0 a1_1 t228 _ A190.out).mono ?_); rintro e w214 ⟨rfl, hb⟩; have n0_ := pxk BK213 hb; have n1_ := pxk BK214 hb; have n2_ := pxk BK220 hb; have n3_ := pxs HB hb; clear BK213; clear BK214; clear BK220; clear HB; have BK213 := n0_; have BK214 := n1_; have BK220 := n2_; have HB := n3_; clear n0_ n1_ n2_ n3_; (try clear hb); (try clear hb2); (try clear hk); (try clear hi); have hcz215_0 : w214.cell? ⟨gb213, 0, none⟩ = some (.int .i64 a0_0) := (blk_cell BK213.out 0).trans rfl; have hcz215_1 : w214.cell? ⟨gb213, 1, none⟩ = some (.int .i64 a0_1) := (blk_cell BK213.out 1).trans rfl; have hfz215_0 := blk_frozen BK213.out 0; have hfz215_1 := blk_frozen BK213.out 1; have hcz216_0 : w214.cell? ⟨gb214, 0, none⟩ = some (.int .i64 a1_0) := (blk_cell BK214.out 0).trans rfl; have hcz216_1 : w214.cell? ⟨gb214, 1, none⟩ = some (.int .i64 a1_1) := (blk_cell BK214.out 1).trans rfl; have hfz216_0 := blk_frozen BK214.out 0; have hfz216_1 := blk_frozen BK214.out 1) | (go_at_call 26; (with_reducible refine (span_Apart.calls kj131 a0_0 a0_1 a1_0 a1_1 t229 _ A192.out).mono ?_); rintro e w217 ⟨rfl, hb⟩; have n0_ := pxk BK213 hb; have n1_ := pxk BK214 hb; have n2_ := pxk BK220 hb; have n3_ := pxs HB hb; clear BK213; clear BK214; clear BK220; clear HB; have BK213 := n0_; have BK214 := n1_; have BK220 := n2_; have HB := n3_; clear n0_ n1_ n2_ n3_; (try clear hb); (try clear hb2); (try clear hk); (try clear hi); have hcz218_0 : w217.cell? ⟨gb214, 0, none⟩ = some (.int .i64 a1_0) := (blk_cell BK214.out 0).trans rfl; have hcz218_1 : w217.cell? ⟨gb214, 1, none⟩ = some (.int .i64 a1_1) := (blk_cell BK214.out 1).trans rfl; have hfz218_0 := blk_frozen BK214.out 0; have hfz218_1 := blk_frozen BK214.out 1; have hcz219_0 : w217.cell? ⟨gb213, 0, none⟩ = some (.int .i64 a0_0) := (blk_cell BK213.out 0).trans rfl; have hcz219_1 : w217.cell? ⟨gb213, 1, none⟩ = some (.int .i64 a0_1) := (blk_cell BK213.out 1).trans rfl; have hfz219_0 := blk_frozen BK213.out 0; have hfz219_1 := blk_frozen BK213.out 1) | (go_at_call 26; (with_reducible refine (span_Apart.calls kj131 a1_0 a1_1 a0_0 a0_1 t230 _ A194.out).mono ?_); rintro e w220 ⟨rfl, hb⟩; have n0_ := pxk BK213 hb; have n1_ := pxk BK214 hb; have n2_ := pxk BK220 hb; have n3_ := pxs HB hb; clear BK213; clear BK214; clear BK220; clear HB; have BK213 := n0_; have BK214 := n1_; have BK220 := n2_; have HB := n3_; clear n0_ n1_ n2_ n3_; (try clear hb); (try clear hb2); (try clear hk); (try clear hi)))
                        repeat (go_quiet (first | (go_at_call 23; (with_reducible refine (span_Holds.calls kj131 a0_0 a0_1 a1_0 a1_1 t228 _ A190.out).mono ?_); rintro e w214 ⟨rfl, hb⟩; have n0_ := pxk BK213 hb; have n1_ := pxk BK214 hb; have n2_ := pxk BK220 hb; have n3_ := pxs HB hb; clear BK213; clear BK214; clear BK220; clear HB; have BK213 := n0_; have BK214 := n1_; have BK220 := n2_; have HB := n3_; clear n0_ n1_ n2_ n3_; (try clear hb); (try clear hb2); (try clear hk); (try clear hi); have hcz215_0 : w214.cell? ⟨gb213, 0, none⟩ = some (.int .i64 a0_0) := (blk_cell BK213.out 0).trans rfl; have hcz215_1 : w214.cell? ⟨gb213, 1, none⟩ = some (.int .i64 a0_1) := (blk_cell BK213.out 1).trans rfl; have hfz215_0 := blk_frozen BK213.out 0; have hfz215_1 := blk_frozen BK213.out 1; have hcz216_0 : w214.cell? ⟨gb214, 0, none⟩ = some (.int .i64 a1_0) := (blk_cell BK214.out 0).trans rfl; have hcz216_1 : w214.cell? ⟨gb214, 1, none⟩ = some (.int .i64 a1_1) := (blk_cell BK214.out 1).trans rfl; have hfz216_0 := blk_frozen BK214.out 0; have hfz216_1 := blk_frozen BK214.out 1) | (go_at_call 26; (with_reducible refine (span_Apart.calls kj131 a0_0 a0_1 a1_0 a1_1 t229 _ A192.out).mono ?_); rintro e w217 ⟨rfl, hb⟩; have n0_ := pxk BK213 hb; have n1_ := pxk BK214 hb; have n2_ := pxk BK220 hb; have n3_ := pxs HB hb; clear BK213; clear BK214; clear BK220; clear HB; have BK213 := n0_; have BK214 := n1_; have BK220 := n2_; have HB := n3_; clear n0_ n1_ n2_ n3_; (try clear hb); (try clear hb2); (try clear hk); (try clear hi); have hcz218_0 : w217.cell? ⟨gb214, 0, none⟩ = some (.int .i64 a1_0) := (blk_cell BK214.out 0).trans rfl; have hcz218_1 : w217.cell? ⟨gb214, 1, none⟩ = some (.int .i64 a1_1) := (blk_cell BK214.out 1).trans rfl; have hfz218_0 := blk_frozen BK214.out 0; have hfz218_1 := blk_frozen BK214.out 1; have hcz219_0 : w217.cell? ⟨gb213, 0, none⟩ = some (.int .i64 a0_0) := (blk_cell BK213.out 0).trans rfl; have hcz219_1 : w217.cell? ⟨gb213, 1, none⟩ = some (.int .i64 a0_1) := (blk_cell BK213.out 1).trans rfl; have hfz219_0 := blk_frozen BK213.out 0; have hfz219_1 := blk_frozen BK213.out 1) | (go_at_call 26; (with_reducible refine (span_Apart.calls kj131 a1_0 a1_1 a0_0 a0_1 t230 _ A194.out).mono ?_); rintro e w220 ⟨rfl, hb⟩; have n0_ := pxk BK213 hb; have n1_ := pxk BK214 hb; have n2_ := pxk BK220 hb; have n3_ := pxs HB hb; clear BK213; clear BK214; clear BK220; clear HB; have BK213 := n0_; have BK214 := n1_; have BK220 := n2_; have HB := n3_; clear n0_ n1_ n2_ n3_; (try clear hb); (try clear hb2); (try clear hk); (try clear hi))); try go_wp2_with (first | (go_at_call 23; (with_reducible refine (span_Holds.calls kj131 a0_0 a0_1 a1_0 a1_1 t228 _ A190.out).mono ?_); rintro e w214 ⟨rfl, hb⟩; have n0_ := pxk BK213 hb; have n1_ := pxk BK214 hb; have n2_ := pxk BK220 hb; have n3_ := pxs HB hb; clear BK213; clear BK214; clear BK220; clear HB; have BK213 := n0_; have BK214 := n1_; have BK220 := n2_; have HB := n3_; clear n0_ n1_ n2_ n3_; (try clear hb); (try clear hb2); (try clear hk); (try clear hi); have hcz215_0 : w214.cell? ⟨gb213, 0, none⟩ = some (.int .i64 a0_0) := (blk_cell BK213.out 0).trans rfl; have hcz215_1 : w214.cell? ⟨gb213, 1, none⟩ = some (.int .i64 a0_1) := (blk_cell BK213.out 1).trans rfl; have hfz215_0 := blk_frozen BK213.out 0; have hfz215_1 := blk_frozen BK213.out 1; have hcz216_0 : w214.cell? ⟨gb214, 0, none⟩ = some (.int .i64 a1_0) := (blk_cell BK214.out 0).trans rfl; have hcz216_1 : w214.cell? ⟨gb214, 1, none⟩ = some (.int .i64 a1_1) := (blk_cell BK214.out 1).trans rfl; have hfz216_0 := blk_frozen BK214.out 0; have hfz216_1 := blk_frozen BK214.out 1) | (go_at_call 26; (with_reducible refine (span_Apart.calls kj131 a0_0 a0_1 a1_0 a1_1 t229 _ A192.out).mono ?_); rintro e w217 ⟨rfl, hb⟩; have n0_ := pxk BK213 hb; have n1_ := pxk BK214 hb; have n2_ := pxk BK220 hb; have n3_ := pxs HB hb; clear BK213; clear BK214; clear BK220; clear HB; have BK213 := n0_; have BK214 := n1_; have BK220 := n2_; have HB := n3_; clear n0_ n1_ n2_ n3_; (try clear hb); (try clear hb2); (try clear hk); (try clear hi); have hcz218_0 : w217.cell? ⟨gb214, 0, none⟩ = some (.int .i64 a1_0) := (blk_cell BK214.out 0).trans rfl; have hcz218_1 : w217.cell? ⟨gb214, 1, none⟩ = some (.int .i64 a1_1) := (blk_cell BK214.out 1).trans rfl; have hfz218_0 := blk_frozen BK214.out 0; have hfz218_1 := blk_frozen BK214.out 1; have hcz219_0 : w217.cell? ⟨gb213, 0, none⟩ = some (.int .i64 a0_0) := (blk_cell BK213.out 0).trans rfl; have hcz219_1 : w217.cell? ⟨gb213, 1, none⟩ = some (.int .i64 a0_1) := (blk_cell BK213.out 1).trans rfl; have hfz219_0 := blk_frozen BK213.out 0; have hfz219_1 := blk_frozen BK213.out 1) | (go_at_call 26; (with_reducible refine (span_Apart.calls kj131 a1_0 a1_1 a0_0 a0_1 t230 _ A194.out).mono ?_); rintro e w220 ⟨rfl, hb⟩; have n0_ := pxk BK213 hb; have n1_ := pxk BK214 hb; have n2_ := pxk BK220 hb; have n3_ := pxs HB hb; clear BK213; clear BK214; clear BK220; clear HB; have BK213 := n0_; have BK214 := n1_; have BK220 := n2_; have HB := n3_; clear n0_ n1_ n2_ n3_; (try clear hb); (try clear hb2); (try clear hk); (try clear hi))))
                        go_ret
                        exact ⟨by first | rfl | (simp [errW_none, errW_some] <;> rfl) | (simp only [← hji87, ← hji88]; first | rfl | (simp [errW_none, errW_some] <;> rfl)) | (simp [*, errW_none, errW_some] <;> rfl), pxb HB⟩
                      ·rw [if_neg c195] at H
                       have c195b0 : (t230 == x12_119) = false := by simpa using c195
                       (try (have c195b1 : decide (t230 = x12_119) = false := by simpa using c195))
                       (try (have c195b2 : (t230 == x12_119) = false := by simpa using c195))
                       (try (have c195b3 : ¬ (t230 = x12_119) := by simpa using c195))
                       clear c195
                       obtain rfl := Option.some.inj H
                       have hnb221 := NB213_214.out
                       have hnc221 := NB214_213.out
                       have hnb222 := NB213_220.out
                       have hnc222 := NB220_213.out
                       have hcz223_0 : wc.cell? ⟨gb213, 0, none⟩ = some (.int .i64 a0_0) := (blk_cell BK213.out 0).trans rfl
                       have hcz223_1 : wc.cell? ⟨gb213, 1, none⟩ = some (.int .i64 a0_1) := (blk_cell BK213.out 1).trans rfl
                       have hfz223_0 := blk_frozen BK213.out 0
                       have hfz223_1 := blk_frozen BK213.out 1
                       have hnb224 := NB214_220.out
                       have hnc224 := NB220_214.out
                       have hcz225_0 : wc.cell? ⟨gb214, 0, none⟩ = some (.int .i64 a1_0) := (blk_cell BK214.out 0).trans rfl
                       have hcz225_1 : wc.cell? ⟨gb214, 1, none⟩ = some (.int .i64 a1_1) := (blk_cell BK214.out 1).trans rfl
                       have hfz225_0 := blk_frozen BK214.out 0
                       have hfz225_1 := blk_frozen BK214.out 1
                       go_wp2_with (first | (go_at_call 23; (with_reducible refine (span_Holds.calls kj131 a0_0 a0_1 a1_0 a1_1 t228 _ A190.out).mono ?_); rintro e w226 ⟨rfl, hb⟩; have n0_ := pxk BK213 hb; have n1_ := pxk BK214 hb; have n2_ := pxk BK220 hb; have n3_ := pxs HB hb; clear BK213; clear BK214; clear BK220; clear HB; have BK213 := n0_; have BK214 := n1_; have BK220 := n2_; have HB := n3_; clear n0_ n1_ n2_ n3_; (try clear hb); (try clear hb2); (try clear hk); (try clear hi); have hcz227_0 : w226.cell? ⟨gb213, 0, none⟩ = some (.int .i64 a0_0) := (blk_cell BK213.out 0).trans rfl; have hcz227_1 : w226.cell? ⟨gb213, 1, none⟩ = some (.int .i64 a0_1) := (blk_cell BK213.out 1).trans rfl; have hfz227_0 := blk_frozen BK213.out 0; have hfz227_1 := blk_frozen BK213.out 1; have hcz228_0 : w226.cell? ⟨gb214, 0, none⟩ = some (.int .i64 a1_0) := (blk_cell BK214.out 0).trans rfl; have hcz228_1 : w226.cell? ⟨gb214, 1, none⟩ = some (.int .i64 a1_1) := (blk_cell BK214.out 1).trans rfl; have hfz228_0 := blk_frozen BK214.out 0; have hfz228_1 := blk_frozen BK214.out 1) | (go_at_call 26; (with_reducible refine (span_Apart.calls kj131 a0_0 a0_1 a1_0 a1_1 t229 _ A192.out).mono ?_); rintro e w229 ⟨rfl, hb⟩; have n0_ := pxk BK213 hb; have n1_ := pxk BK214 hb; have n2_ := pxk BK220 hb; have n3_ := pxs HB hb; clear BK213; clear BK214; clear BK220; clear HB; have BK213 := n0_; have BK214 := n1_; have BK220 := n2_; have HB := n3_; clear n0_ n1_ n2_ n3_; (try clear hb); (try clear hb2); (try clear hk); (try clear hi); have hcz230_0 : w229.cell? ⟨gb214, 0, none⟩ = some (.int .i64 a1_0) := (blk_cell BK214.out 0).trans rfl; have hcz230_1 : w229.cell? ⟨gb214, 1, none⟩ = some (.int .i64 a1_1) := (blk_cell BK214.out 1).trans rfl; have hfz230_0 := blk_frozen BK214.out 0; have hfz230_1 := blk_frozen BK214.out 1; have hcz231_0 : w229.cell? ⟨gb213, 0, none⟩ = some (.int .i64 a0_0) := (blk_cell BK213.out 0).trans rfl; have hcz231_1 : w229.cell? ⟨gb213, 1, none⟩ = some (.int .i64 a0_1) := (blk_cell BK213.out 1).trans rfl; have hfz231_0 := blk_frozen BK213.out 0; have hfz231_1 := blk_frozen BK213.out 1) | (go_at_call 26; (with_reducible refine (span_Apart.calls kj131 a1_0 a1_1 a0_0 a0_1 t230 _ A194.out).mono ?_); rintro e w232 ⟨rfl, hb⟩; have n0_ := pxk BK213 hb; have n1_ := pxk BK214 hb; have n2_ := pxk BK220 hb; have n3_ := pxs HB hb; clear BK213; clear BK214; clear BK220; clear HB; have BK213 := n0_; have BK214 := n1_; have BK220 := n2_; have HB := n3_; clear n0_ n1_ n2_ n3_; (try clear hb); (try clear hb2); (try clear hk); (try clear hi)))
                       repeat (go_quiet (first | (go_at_call 23; (with_reducible refine (span_Holds.calls kj131 a0_0 a0_1 a1_0 a1_1 t228 _ A190.out).mono ?_); rintro e w226 ⟨rfl, hb⟩; have n0_ := pxk BK213 hb; have n1_ := pxk BK214 hb; have n2_ := pxk BK220 hb; have n3_ := pxs HB hb; clear BK213; clear BK214; clear BK220; clear HB; have BK213 := n0_; have BK214 := n1_; have BK220 := n2_; have HB := n3_; clear n0_ n1_ n2_ n3_; (try clear hb); (try clear hb2); (try clear hk); (try clear hi); have hcz227_0 : w226.cell? ⟨gb213, 0, none⟩ = some (.int .i64 a0_0) := (blk_cell BK213.out 0).trans rfl; have hcz227_1 : w226.cell? ⟨gb213, 1, none⟩ = some (.int .i64 a0_1) := (blk_cell BK213.out 1).trans rfl; have hfz227_0 := blk_frozen BK213.out 0; have hfz227_1 := blk_frozen BK213.out 1; have hcz228_0 : w226.cell? ⟨gb214, 0, none⟩ = some (.int .i64 a1_0) := (blk_cell BK214.out 0).trans rfl; have hcz228_1 : w226.cell? ⟨gb214, 1, none⟩ = some (.int .i64 a1_1) := (blk_cell BK214.out 1).trans rfl; have hfz228_0 := blk_frozen BK214.out 0; have hfz228_1 := blk_frozen BK214.out 1) | (go_at_call 26; (with_reducible refine (span_Apart.calls kj131 a0_0 a0_1 a1_0 a1_1 t229 _ A192.out).mono ?_); rintro e w229 ⟨rfl, hb⟩; have n0_ := pxk BK213 hb; have n1_ := pxk BK214 hb; have n2_ := pxk BK220 hb; have n3_ := pxs HB hb; clear BK213; clear BK214; clear BK220; clear HB; have BK213 := n0_; have BK214 := n1_; have BK220 := n2_; have HB := n3_; clear n0_ n1_ n2_ n3_; (try clear hb); (try clear hb2); (try clear hk); (try clear hi); have hcz230_0 : w229.cell? ⟨gb214, 0, none⟩ = some (.int .i64 a1_0) := (blk_cell BK214.out 0).trans rfl; have hcz230_1 : w229.cell? ⟨gb214, 1, none⟩ = some (.int .i64 a1_1) := (blk_cell BK214.out 1).trans rfl; have hfz230_0 := blk_frozen BK214.out 0; have hfz230_1 := blk_frozen BK214.out 1; have hcz231_0 : w229.cell? ⟨gb213, 0, none⟩ = some (.int .i64 a0_0) := (blk_cell BK213.out 0).trans rfl; have hcz231_1 : w229.cell? ⟨gb213, 1, none⟩ = some (.int .i64 a0_1) := (blk_cell BK213.out 1).trans rfl; have hfz231_0 := blk_frozen BK213.out 0; have hfz231_1 := blk_frozen BK213.out 1) | (go_at_call 26; (with_reducible refine (span_Apart.calls kj131 a1_0 a1_1 a0_0 a0_1 t230 _ A194.out).mono ?_); rintro e w232 ⟨rfl, hb⟩; have n0_ := pxk BK213 hb; have n1_ := pxk BK214 hb; have n2_ := pxk BK220 hb; have n3_ := pxs HB hb; clear BK213; clear BK214; clear BK220; clear HB; have BK213 := n0_; have BK214 := n1_; have BK220 := n2_; have HB := n3_; clear n0_ n1_ n2_ n3_; (try clear hb); (try clear hb2); (try clear hk); (try clear hi))); try go_wp2_with (first | (go_at_call 23; (with_reducible refine (span_Holds.calls kj131 a0_0 a0_1 a1_0 a1_1 t228 _ A190.out).mono ?_); rintro e w226 ⟨rfl, hb⟩; have n0_ := pxk BK213 hb; have n1_ := pxk BK214 hb; have n2_ := pxk BK220 hb; have n3_ := pxs HB hb; clear BK213; clear BK214; clear BK220; clear HB; have BK213 := n0_; have BK214 := n1_; have BK220 := n2_; have HB := n3_; clear n0_ n1_ n2_ n3_; (try clear hb); (try clear hb2); (try clear hk); (try clear hi); have hcz227_0 : w226.cell? ⟨gb213, 0, none⟩ = some (.int .i64 a0_0) := (blk_cell BK213.out 0).trans rfl; have hcz227_1 : w226.cell? ⟨gb213, 1, none⟩ = some (.int .i64 a0_1) := (blk_cell BK213.out 1).trans rfl; have hfz227_0 := blk_frozen BK213.out 0; have hfz227_1 := blk_frozen BK213.out 1; have hcz228_0 : w226.cell? ⟨gb214, 0, none⟩ = some (.int .i64 a1_0) := (blk_cell BK214.out 0).trans rfl; have hcz228_1 : w226.cell? ⟨gb214, 1, none⟩ = some (.int .i64 a1_1) := (blk_cell BK214.out 1).trans rfl; have hfz228_0 := blk_frozen BK214.out 0; have hfz228_1 := blk_frozen BK214.out 1) | (go_at_call 26; (with_reducible refine (span_Apart.calls kj131 a0_0 a0_1 a1_0 a1_1 t229 _ A192.out).mono ?_); rintro e w229 ⟨rfl, hb⟩; have n0_ := pxk BK213 hb; have n1_ := pxk BK214 hb; have n2_ := pxk BK220 hb; have n3_ := pxs HB hb; clear BK213; clear BK214; clear BK220; clear HB; have BK213 := n0_; have BK214 := n1_; have BK220 := n2_; have HB := n3_; clear n0_ n1_ n2_ n3_; (try clear hb); (try clear hb2); (try clear hk); (try clear hi); have hcz230_0 : w229.cell? ⟨gb214, 0, none⟩ = some (.int .i64 a1_0) := (blk_cell BK214.out 0).trans rfl; have hcz230_1 : w229.cell? ⟨gb214, 1, none⟩ = some (.int .i64 a1_1) := (blk_cell BK214.out 1).trans rfl; have hfz230_0 := blk_frozen BK214.out 0; have hfz230_1 := blk_frozen BK214.out 1; have hcz231_0 : w229.cell? ⟨gb213, 0, none⟩ = some (.int .i64 a0_0) := (blk_cell BK213.out 0).trans rfl; have hcz231_1 : w229.cell? ⟨gb213, 1, none⟩ = some (.int .i64 a0_1) := (blk_cell BK213.out 1).trans rfl; have hfz231_0 := blk_frozen BK213.out 0; have hfz231_1 := blk_frozen BK213.out 1) | (go_at_call 26; (with_reducible refine (span_Apart.calls kj131 a1_0 a1_1 a0_0 a0_1 t230 _ A194.out).mono ?_); rintro e w232 ⟨rfl, hb⟩; have n0_ := pxk BK213 hb; have n1_ := pxk BK214 hb; have n2_ := pxk BK220 hb; have n3_ := pxs HB hb; clear BK213; clear BK214; clear BK220; clear HB; have BK213 := n0_; have BK214 := n1_; have BK220 := n2_; have HB := n3_; clear n0_ n1_ n2_ n3_; (try clear hb); (try clear hb2); (try clear hk); (try clear hi))))
                       go_ret
                       exact ⟨by first | rfl | (simp [errW_none, errW_some] <;> rfl) | (simp only [← hji87, ← hji88]; first | rfl | (simp [errW_none, errW_some] <;> rfl)) | (simp [*, errW_none, errW_some] <;> rfl), pxb HB⟩
                     ·rw [if_neg c193] at H
                      have c193b0 : (t229 == x12_119) = false := by simpa using c193
                      (try (have c193b1 : decide (t229 = x12_119) = false := by simpa using c193))
                      (try (have c193b2 : (t229 == x12_119) = false := by simpa using c193))
                      (try (have c193b3 : ¬ (t229 = x12_119) := by simpa using c193))
                      clear c193
                      obtain rfl := Option.some.inj H
                      have hnb233 := NB213_214.out
                      have hnc233 := NB214_213.out
                      have hnb234 := NB213_220.out
                      have hnc234 := NB220_213.out
                      have hcz235_0 : wc.cell? ⟨gb213, 0, none⟩ = some (.int .i64 a0_0) := (blk_cell BK213.out 0).trans rfl
                      have hcz235_1 : wc.cell? ⟨gb213, 1, none⟩ = some (.int .i64 a0_1) := (blk_cell BK213.out 1).trans rfl
                      have hfz235_0 := blk_frozen BK213.out 0
                      have hfz235_1 := blk_frozen BK213.out 1
                      have hnb236 := NB214_220.out
                      have hnc236 := NB220_214.out
                      have hcz237_0 : wc.cell? ⟨gb214, 0, none⟩ = some (.int .i64 a1_0) := (blk_cell BK214.out 0).trans rfl
                      have hcz237_1 : wc.cell? ⟨gb214, 1, none⟩ = some (.int .i64 a1_1) := (blk_cell BK214.out 1).trans rfl
                      have hfz237_0 := blk_frozen BK214.out 0
                      have hfz237_1 := blk_frozen BK214.out 1
                      go_wp2_with (first | (go_at_call 23; (with_reducible refine (span_Holds.calls kj131 a0_0 a0_1 a1_0 a1_1 t228 _ A190.out).mono ?_); rintro e w238 ⟨rfl, hb⟩; have n0_ := pxk BK213 hb; have n1_ := pxk BK214 hb; have n2_ := pxk BK220 hb; have n3_ := pxs HB hb; clear BK213; clear BK214; clear BK220; clear HB; have BK213 := n0_; have BK214 := n1_; have BK220 := n2_; have HB := n3_; clear n0_ n1_ n2_ n3_; (try clear hb); (try clear hb2); (try clear hk); (try clear hi); have hcz239_0 : w238.cell? ⟨gb213, 0, none⟩ = some (.int .i64 a0_0) := (blk_cell BK213.out 0).trans rfl; have hcz239_1 : w238.cell? ⟨gb213, 1, none⟩ = some (.int .i64 a0_1) := (blk_cell BK213.out 1).trans rfl; have hfz239_0 := blk_frozen BK213.out 0; have hfz239_1 := blk_frozen BK213.out 1; have hcz240_0 : w238.cell? ⟨gb214, 0, none⟩ = some (.int .i64 a1_0) := (blk_cell BK214.out 0).trans rfl; have hcz240_1 : w238.cell? ⟨gb214, 1, none⟩ = some (.int .i64 a1_1) := (blk_cell BK214.out 1).trans rfl; have hfz240_0 := blk_frozen BK214.out 0; have hfz240_1 := blk_frozen BK214.out 1) | (go_at_call 26; (with_reducible refine (span_Apart.calls kj131 a0_0 a0_1 a1_0 a1_1 t229 _ A192.out).mono ?_); rintro e w241 ⟨rfl, hb⟩; have n0_ := pxk BK213 hb; have n1_ := pxk BK214 hb; have n2_ := pxk BK220 hb; have n3_ := pxs HB hb; clear BK213; clear BK214; clear BK220; clear HB; have BK213 := n0_; have BK214 := n1_; have BK220 := n2_; have HB := n3_; clear n0_ n1_ n2_ n3_; (try clear hb); (try clear hb2); (try clear hk); (try clear hi)))
                      repeat (go_quiet (first | (go_at_call 23; (with_reducible refine (span_Holds.calls kj131 a0_0 a0_1 a1_0 a1_1 t228 _ A190.out).mono ?_); rintro e w238 ⟨rfl, hb⟩; have n0_ := pxk BK213 hb; have n1_ := pxk BK214 hb; have n2_ := pxk BK220 hb; have n3_ := pxs HB hb; clear BK213; clear BK214; clear BK220; clear HB; have BK213 := n0_; have BK214 := n1_; have BK220 := n2_; have HB := n3_; clear n0_ n1_ n2_ n3_; (try clear hb); (try clear hb2); (try clear hk); (try clear hi); have hcz239_0 : w238.cell? ⟨gb213, 0, none⟩ = some (.int .i64 a0_0) := (blk_cell BK213.out 0).trans rfl; have hcz239_1 : w238.cell? ⟨gb213, 1, none⟩ = some (.int .i64 a0_1) := (blk_cell BK213.out 1).trans rfl; have hfz239_0 := blk_frozen BK213.out 0; have hfz239_1 := blk_frozen BK213.out 1; have hcz240_0 : w238.cell? ⟨gb214, 0, none⟩ = some (.int .i64 a1_0) := (blk_cell BK214.out 0).trans rfl; have hcz240_1 : w238.cell? ⟨gb214, 1, none⟩ = some (.int .i64 a1_1) := (blk_cell BK214.out 1).trans rfl; have hfz240_0 := blk_frozen BK214.out 0; have hfz240_1 := blk_frozen BK214.out 1) | (go_at_call 26; (with_reducible refine (span_Apart.calls kj131 a0_0 a0_1 a1_0 a1_1 t229 _ A192.out).mono ?_); rintro e w241 ⟨rfl, hb⟩; have n0_ := pxk BK213 hb; have n1_ := pxk BK214 hb; have n2_ := pxk BK220 hb; have n3_ := pxs HB hb; clear BK213; clear BK214; clear BK220; clear HB; have BK213 := n0_; have BK214 := n1_; have BK220 := n2_; have HB := n3_; clear n0_ n1_ n2_ n3_; (try clear hb); (try clear hb2); (try clear hk); (try clear hi))); try go_wp2_with (first | (go_at_call 23; (with_reducible refine (span_Holds.calls kj131 a0_0 a0_1 a1_0 a1_1 t228 _ A190.out).mono ?_); rintro e w238 ⟨rfl, hb⟩; have n0_ := pxk BK213 hb; have n1_ := pxk BK214 hb; have n2_ := pxk BK220 hb; have n3_ := pxs HB hb; clear BK213; clear BK214; clear BK220; clear HB; have BK213 := n0_; have BK214 := n1_; have BK220 := n2_; have HB := n3_; clear n0_ n1_ n2_ n3_; (try clear hb); (try clear hb2); (try clear hk); (try clear hi); have hcz239_0 : w238.cell? ⟨gb213, 0, none⟩ = some (.int .i64 a0_0) := (blk_cell BK213.out 0).trans rfl; have hcz239_1 : w238.cell? ⟨gb213, 1, none⟩ = some (.int .i64 a0_1) := (blk_cell BK213.out 1).trans rfl; have hfz239_0 := blk_frozen BK213.out 0; have hfz239_1 := blk_frozen BK213.out 1; have hcz240_0 : w238.cell? ⟨gb214, 0, none⟩ = some (.int .i64 a1_0) := (blk_cell BK214.out 0).trans rfl; have hcz240_1 : w238.cell? ⟨gb214, 1, none⟩ = some (.int .i64 a1_1) := (blk_cell BK214.out 1).trans rfl; have hfz240_0 := blk_frozen BK214.out 0; have hfz240_1 := blk_frozen BK214.out 1) | (go_at_call 26; (with_reducible refine (span_Apart.calls kj131 a0_0 a0_1 a1_0 a1_1 t229 _ A192.out).mono ?_); rintro e w241 ⟨rfl, hb⟩; have n0_ := pxk BK213 hb; have n1_ := pxk BK214 hb; have n2_ := pxk BK220 hb; have n3_ := pxs HB hb; clear BK213; clear BK214; clear BK220; clear HB; have BK213 := n0_; have BK214 := n1_; have BK220 := n2_; have HB := n3_; clear n0_ n1_ n2_ n3_; (try clear hb); (try clear hb2); (try clear hk); (try clear hi))))
                      go_ret
                      exact ⟨by first | rfl | (simp [errW_none, errW_some] <;> rfl) | (simp only [← hji87, ← hji88]; first | rfl | (simp [errW_none, errW_some] <;> rfl)) | (simp [*, errW_none, errW_some] <;> rfl), pxb HB⟩
                    ·rw [if_neg c191] at H
                     have c191b0 : (t228 == x11_107) = false := by simpa using c191
                     (try (have c191b1 : decide (t228 = x11_107) = false := by simpa using c191))
                     (try (have c191b2 : (t228 == x11_107) = false := by simpa using c191))
                     (try (have c191b3 : ¬ (t228 = x11_107) := by simpa using c191))
                     clear c191
                     obtain rfl := Option.some.inj H
                     have hnb242 := NB213_214.out
                     have hnc242 := NB214_213.out
                     have hnb243 := NB213_220.out
                     have hnc243 := NB220_213.out
                     have hcz244_0 : wc.cell? ⟨gb213, 0, none⟩ = some (.int .i64 a0_0) := (blk_cell BK213.out 0).trans rfl
                     have hcz244_1 : wc.cell? ⟨gb213, 1, none⟩ = some (.int .i64 a0_1) := (blk_cell BK213.out 1).trans rfl
                     have hfz244_0 := blk_frozen BK213.out 0
                     have hfz244_1 := blk_frozen BK213.out 1
                     have hnb245 := NB214_220.out
                     have hnc245 := NB220_214.out
                     have hcz246_0 : wc.cell? ⟨gb214, 0, none⟩ = some (.int .i64 a1_0) := (blk_cell BK214.out 0).trans rfl
                     have hcz246_1 : wc.cell? ⟨gb214, 1, none⟩ = some (.int .i64 a1_1) := (blk_cell BK214.out 1).trans rfl
                     have hfz246_0 := blk_frozen BK214.out 0
                     have hfz246_1 := blk_frozen BK214.out 1
                     go_wp2_with (first | (go_at_call 23; (with_reducible refine (span_Holds.calls kj131 a0_0 a0_1 a1_0 a1_1 t228 _ A190.out).mono ?_); rintro e w247 ⟨rfl, hb⟩; have n0_ := pxk BK213 hb; have n1_ := pxk BK214 hb; have n2_ := pxk BK220 hb; have n3_ := pxs HB hb; clear BK213; clear BK214; clear BK220; clear HB; have BK213 := n0_; have BK214 := n1_; have BK220 := n2_; have HB := n3_; clear n0_ n1_ n2_ n3_; (try clear hb); (try clear hb2); (try clear hk); (try clear hi)))
                     repeat (go_quiet (first | (go_at_call 23; (with_reducible refine (span_Holds.calls kj131 a0_0 a0_1 a1_0 a1_1 t228 _ A190.out).mono ?_); rintro e w247 ⟨rfl, hb⟩; have n0_ := pxk BK213 hb; have n1_ := pxk BK214 hb; have n2_ := pxk BK220 hb; have n3_ := pxs HB hb; clear BK213; clear BK214; clear BK220; clear HB; have BK213 := n0_; have BK214 := n1_; have BK220 := n2_; have HB := n3_; clear n0_ n1_ n2_ n3_; (try clear hb); (try clear hb2); (try clear hk); (try clear hi))); try go_wp2_with (first | (go_at_call 23; (with_reducible refine (span_Holds.calls kj131 a0_0 a0_1 a1_0 a1_1 t228 _ A190.out).mono ?_); rintro e w247 ⟨rfl, hb⟩; have n0_ := pxk BK213 hb; have n1_ := pxk BK214 hb; have n2_ := pxk BK220 hb; have n3_ := pxs HB hb; clear BK213; clear BK214; clear BK220; clear HB; have BK213 := n0_; have BK214 := n1_; have BK220 := n2_; have HB := n3_; clear n0_ n1_ n2_ n3_; (try clear hb); (try clear hb2); (try clear hk); (try clear hi))))
                     go_ret
                     exact ⟨by first | rfl | (simp [errW_none, errW_some] <;> rfl) | (simp only [← hji87, ← hji88]; first | rfl | (simp [errW_none, errW_some] <;> rfl)) | (simp [*, errW_none, errW_some] <;> rfl), pxb HB⟩
 ·replace c4 := Bool.eq_false_iff.mpr c4
  subst c4
  have H1 : (some false) = some r := by rw [if_neg (show ¬ (false = true) by decide)] at H; exact H
  clear H
  have H := H1
  clear H1
  obtain rfl := Option.some.inj H
  go_enter Try.func7, Try.ntmps7
  go_wp2_with (first | ((with_reducible refine gate_dst (N := 2) rfl ?_); refine box_event ?hg (N := 2) ?hd (cs := #[.int .i64 a0_0, .int .i64 a0_1]) (t := 24) ?hr ?_; (case hd => rfl); (case hg => rfl); (case hr => first | (go_simp; done) | (go_simp; rfl)); intro gb213 hg w248 hbox hb; have n0_ := pxs HB hb; have n1_ := Aside0.mk (hbox); have n2_ := Aside0.mk ((by rw [hg]; exact (below_size (pxb HB)) : w.heap.size ≤ gb213)); have n3_ := Aside0.mk ((by rw [hg]; exact (below_size (pxb HB)) : w.heap.size ≤ gb213)); clear HB; have HB := n0_; have BK213 := n1_; have GW213 := n2_; have GE213 := n3_; clear n0_ n1_ n2_ n3_; clear hb hbox hg) | ((with_reducible refine gate_dst (N := 3) rfl ?_); refine box_event ?hg (N := 3) ?hd (cs := #[.int .i64 a1_0, .int .i64 a1_1]) (t := 24) ?hr ?_; (case hd => rfl); (case hg => rfl); (case hr => first | (go_simp; done) | (go_simp; rfl)); intro gb214 hg w249 hbox hb; have n0_ := pxk BK213 hb; have n1_ := pxs HB hb; have n2_ := Aside0.mk (hbox); have n3_ := Aside0.mk ((by rw [hg]; exact (below_size (pxb HB)) : w.heap.size ≤ gb214)); have n4_ := Aside0.mk ((by rw [hg]; exact (below_size (pxb HB)) : w.heap.size ≤ gb214)); have n5_ := Aside0.mk ((by rw [hg]; exact Nat.ne_of_lt (blk_lt (g := gb213) (o := .cells #[.int .i64 a0_0, .int .i64 a0_1] 24 (0, 0)) (by (with_reducible repeat (first | refine blk_drewN ?_ _ | refine blk_drew ?_ | refine blk_alloc ?_ _)); exact BK213.out)) : gb213 ≠ gb214)); have n6_ := Aside0.mk ((by rw [hg]; exact Nat.ne_of_gt (blk_lt (g := gb213) (o := .cells #[.int .i64 a0_0, .int .i64 a0_1] 24 (0, 0)) (by (with_reducible repeat (first | refine blk_drewN ?_ _ | refine blk_drew ?_ | refine blk_alloc ?_ _)); exact BK213.out)) : gb214 ≠ gb213)); clear BK213; clear HB; have BK213 := n0_; have HB := n1_; have BK214 := n2_; have GW214 := n3_; have GE214 := n4_; have NB213_214 := n5_; have NB214_213 := n6_; clear n0_ n1_ n2_ n3_ n4_ n5_ n6_; clear hb hbox hg) | (go_at_call 14; (with_reducible refine (caulkerlaw01_spans.calls k  false _ A3.out).mono ?_); rintro e w250 ⟨rfl, hb⟩; have n0_ := pxk BK213 hb; have n1_ := pxk BK214 hb; have n2_ := pxs HB hb; clear BK213; clear BK214; clear HB; have BK213 := n0_; have BK214 := n1_; have HB := n2_; clear n0_ n1_ n2_; (try clear hb); (try clear hb2); (try clear hk); (try clear hi)))
  repeat (go_quiet (first | ((with_reducible refine gate_dst (N := 2) rfl ?_); refine box_event ?hg (N := 2) ?hd (cs := #[.int .i64 a0_0, .int .i64 a0_1]) (t := 24) ?hr ?_; (case hd => rfl); (case hg => rfl); (case hr => first | (go_simp; done) | (go_simp; rfl)); intro gb213 hg w248 hbox hb; have n0_ := pxs HB hb; have n1_ := Aside0.mk (hbox); have n2_ := Aside0.mk ((by rw [hg]; exact (below_size (pxb HB)) : w.heap.size ≤ gb213)); have n3_ := Aside0.mk ((by rw [hg]; exact (below_size (pxb HB)) : w.heap.size ≤ gb213)); clear HB; have HB := n0_; have BK213 := n1_; have GW213 := n2_; have GE213 := n3_; clear n0_ n1_ n2_ n3_; clear hb hbox hg) | ((with_reducible refine gate_dst (N := 3) rfl ?_); refine box_event ?hg (N := 3) ?hd (cs := #[.int .i64 a1_0, .int .i64 a1_1]) (t := 24) ?hr ?_; (case hd => rfl); (case hg => rfl); (case hr => first | (go_simp; done) | (go_simp; rfl)); intro gb214 hg w249 hbox hb; have n0_ := pxk BK213 hb; have n1_ := pxs HB hb; have n2_ := Aside0.mk (hbox); have n3_ := Aside0.mk ((by rw [hg]; exact (below_size (pxb HB)) : w.heap.size ≤ gb214)); have n4_ := Aside0.mk ((by rw [hg]; exact (below_size (pxb HB)) : w.heap.size ≤ gb214)); have n5_ := Aside0.mk ((by rw [hg]; exact Nat.ne_of_lt (blk_lt (g := gb213) (o := .cells #[.int .i64 a0_0, .int .i64 a0_1] 24 (0, 0)) (by (with_reducible repeat (first | refine blk_drewN ?_ _ | refine blk_drew ?_ | refine blk_alloc ?_ _)); exact BK213.out)) : gb213 ≠ gb214)); have n6_ := Aside0.mk ((by rw [hg]; exact Nat.ne_of_gt (blk_lt (g := gb213) (o := .cells #[.int .i64 a0_0, .int .i64 a0_1] 24 (0, 0)) (by (with_reducible repeat (first | refine blk_drewN ?_ _ | refine blk_drew ?_ | refine blk_alloc ?_ _)); exact BK213.out)) : gb214 ≠ gb213)); clear BK213; clear HB; have BK213 := n0_; have HB := n1_; have BK214 := n2_; have GW214 := n3_; have GE214 := n4_; have NB213_214 := n5_; have NB214_213 := n6_; clear n0_ n1_ n2_ n3_ n4_ n5_ n6_; clear hb hbox hg) | (go_at_call 14; (with_reducible refine (caulkerlaw01_spans.calls k  false _ A3.out).mono ?_); rintro e w250 ⟨rfl, hb⟩; have n0_ := pxk BK213 hb; have n1_ := pxk BK214 hb; have n2_ := pxs HB hb; clear BK213; clear BK214; clear HB; have BK213 := n0_; have BK214 := n1_; have HB := n2_; clear n0_ n1_ n2_; (try clear hb); (try clear hb2); (try clear hk); (try clear hi))); try go_wp2_with (first | ((with_reducible refine gate_dst (N := 2) rfl ?_); refine box_event ?hg (N := 2) ?hd (cs := #[.int .i64 a0_0, .int .i64 a0_1]) (t := 24) ?hr ?_; (case hd => rfl); (case hg => rfl); (case hr => first | (go_simp; done) | (go_simp; rfl)); intro gb213 hg w248 hbox hb; have n0_ := pxs HB hb; have n1_ := Aside0.mk (hbox); have n2_ := Aside0.mk ((by rw [hg]; exact (below_size (pxb HB)) : w.heap.size ≤ gb213)); have n3_ := Aside0.mk ((by rw [hg]; exact (below_size (pxb HB)) : w.heap.size ≤ gb213)); clear HB; have HB := n0_; have BK213 := n1_; have GW213 := n2_; have GE213 := n3_; clear n0_ n1_ n2_ n3_; clear hb hbox hg) | ((with_reducible refine gate_dst (N := 3) rfl ?_); refine box_event ?hg (N := 3) ?hd (cs := #[.int .i64 a1_0, .int .i64 a1_1]) (t := 24) ?hr ?_; (case hd => rfl); (case hg => rfl); (case hr => first | (go_simp; done) | (go_simp; rfl)); intro gb214 hg w249 hbox hb; have n0_ := pxk BK213 hb; have n1_ := pxs HB hb; have n2_ := Aside0.mk (hbox); have n3_ := Aside0.mk ((by rw [hg]; exact (below_size (pxb HB)) : w.heap.size ≤ gb214)); have n4_ := Aside0.mk ((by rw [hg]; exact (below_size (pxb HB)) : w.heap.size ≤ gb214)); have n5_ := Aside0.mk ((by rw [hg]; exact Nat.ne_of_lt (blk_lt (g := gb213) (o := .cells #[.int .i64 a0_0, .int .i64 a0_1] 24 (0, 0)) (by (with_reducible repeat (first | refine blk_drewN ?_ _ | refine blk_drew ?_ | refine blk_alloc ?_ _)); exact BK213.out)) : gb213 ≠ gb214)); have n6_ := Aside0.mk ((by rw [hg]; exact Nat.ne_of_gt (blk_lt (g := gb213) (o := .cells #[.int .i64 a0_0, .int .i64 a0_1] 24 (0, 0)) (by (with_reducible repeat (first | refine blk_drewN ?_ _ | refine blk_drew ?_ | refine blk_alloc ?_ _)); exact BK213.out)) : gb214 ≠ gb213)); clear BK213; clear HB; have BK213 := n0_; have HB := n1_; have BK214 := n2_; have GW214 := n3_; have GE214 := n4_; have NB213_214 := n5_; have NB214_213 := n6_; clear n0_ n1_ n2_ n3_ n4_ n5_ n6_; clear hb hbox hg) | (go_at_call 14; (with_reducible refine (caulkerlaw01_spans.calls k  false _ A3.out).mono ?_); rintro e w250 ⟨rfl, hb⟩; have n0_ := pxk BK213 hb; have n1_ := pxk BK214 hb; have n2_ := pxs HB hb; clear BK213; clear BK214; clear HB; have BK213 := n0_; have BK214 := n1_; have HB := n2_; clear n0_ n1_ n2_; (try clear hb); (try clear hb2); (try clear hk); (try clear hi))))
  go_ret
  exact ⟨by first | rfl | (simp [errW_none, errW_some] <;> rfl) | (simp [*, errW_none, errW_some] <;> rfl), pxb HB⟩

/-- THE ONE PURE STATEMENT of caulkerlaw01_SpanPairs. -/
def caulkerlaw01_SpanPairs.Pure : Prop := ∀ (a0_0 : Int) (a0_1 : Int) (a1_0 : Int) (a1_1 : Int), good24 ((⟨a0_0, a0_1⟩ : S24)) → good24 ((⟨a1_0, a1_1⟩ : S24)) → ∃ k, caulkerlaw01_SpanPairs.f k a0_0 a0_1 a1_0 a1_1 = some true

end Go.Proofs.Ytfnemjejfccecaa.X
