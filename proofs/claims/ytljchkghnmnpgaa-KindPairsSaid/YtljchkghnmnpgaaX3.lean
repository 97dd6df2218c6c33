/- What the program's functions answer, as Lean functions, and that each call does just that; no condition. Written by a program (px.py) out of the translation. -/
import Derived.Test.YtljchkghnmnpgaaX0
import Derived.Test.YtljchkghnmnpgaaX12
import Derived.Test.YtljchkghnmnpgaaX13
import Derived.Test.YtljchkghnmnpgaaX14
import Derived.Test.YtljchkghnmnpgaaX9
import Derived.Test.YtljchkghnmnpgaaX10
import Derived.Test.YtljchkghnmnpgaaX11
namespace Go.Proofs.Ytljchkghnmnpgaa.X
open Go.RowKit Go.Proofs.YtljchkghnmnpgaaW.PrintWords Go.Proofs.YtljchkghnmnpgaaW.PrintLast Go.Proofs.YtljchkghnmnpgaaW.PrintMore
attribute [local go_sem] max2_int min2_int max_two min_two max_three min_three max_four min_four   -- for this text's walks alone
set_option linter.unusedVariables false
set_option linter.unusedSimpArgs false

/-! ### caulkerlaw10_KindPairs: function 3 -/
mutual
def caulkerlaw10_KindPairs.j0 : Nat → Bool → Int → ByteArray → Int → ByteArray → Int → ByteArray → Int → ByteArray → Option (Bool)
 | 0, _, _, _, _, _, _, _, _, _ => none
 | k + 1, x23, x234000, x234001, x234002, x234003, x235000, x235001, x235002, x235003 => if x23 = true then ((kind_Alike.f k x234000 x234001 x234002 x234003 x235000 x235001 x235002 x235003).bind fun t242 => (if t242 = true then (none) else ((kind_Inside.f k x234000 x234001 x234002 x234003 x235000 x235001 x235002 x235003).bind fun t243 => (if t243 = true then (none) else ((kind_Less.f k x234000 x234001 x234002 x234003 x235000 x235001 x235002 x235003).bind fun t244 => (some (!t244))))))) else (if x234000 = x235000 then (if x234001.toList = x235001.toList then (caulkerlaw10_KindPairs.j1 k (x234002 == x235002) x234000 x234001 x234002 x234003 x235000 x235001 x235002 x235003) else (caulkerlaw10_KindPairs.j1 k false x234000 x234001 x234002 x234003 x235000 x235001 x235002 x235003)) else (caulkerlaw10_KindPairs.j1 k false x234000 x234001 x234002 x234003 x235000 x235001 x235002 x235003))
def caulkerlaw10_KindPairs.j1 : Nat → Bool → Int → ByteArray → Int → ByteArray → Int → ByteArray → Int → ByteArray → Option (Bool)
 | 0, _, _, _, _, _, _, _, _, _ => none
 | k + 1, x5, x234000, x234001, x234002, x234003, x235000, x235001, x235002, x235003 => caulkerlaw10_KindPairs.l0 k x5 x5 x5 (x234003.size : Int) 0 x234000 x234001 x234002 x234003 x235000 x235001 x235002 x235003
def caulkerlaw10_KindPairs.l0 : Nat → Bool → Bool → Bool → Int → Int → Int → ByteArray → Int → ByteArray → Int → ByteArray → Int → ByteArray → Option (Bool)
 | 0, _, _, _, _, _, _, _, _, _, _, _, _, _ => none
 | k + 1, x5, x6, x7, x63, x64, x234000, x234001, x234002, x234003, x235000, x235001, x235002, x235003 => if x64 < x63 then (if x5 = true then (if 0 ≤ x64 then (if x64 < (x234003.size : Int) then (if x64 < (x235003.size : Int) then (if (bt x234003 x64) = (bt x235003 x64) then (caulkerlaw10_KindPairs.l0 k x5 x6 x7 x63 (wrap64 (x64 + 1)) x234000 x234001 x234002 x234003 x235000 x235001 x235002 x235003) else (if x6 = true then (if x7 = true then (caulkerlaw10_KindPairs.l0 k x5 (x64 == (wrap64 ((x234003.size : Int) - 1))) ((bt x234003 x64) == 32) x63 (wrap64 (x64 + 1)) x234000 x234001 x234002 x234003 x235000 x235001 x235002 x235003) else (caulkerlaw10_KindPairs.l0 k x5 (x64 == (wrap64 ((x234003.size : Int) - 1))) false x63 (wrap64 (x64 + 1)) x234000 x234001 x234002 x234003 x235000 x235001 x235002 x235003)) else (if x7 = true then (caulkerlaw10_KindPairs.l0 k x5 false ((bt x234003 x64) == 32) x63 (wrap64 (x64 + 1)) x234000 x234001 x234002 x234003 x235000 x235001 x235002 x235003) else (caulkerlaw10_KindPairs.l0 k x5 false false x63 (wrap64 (x64 + 1)) x234000 x234001 x234002 x234003 x235000 x235001 x235002 x235003)))) else (none)) else (none)) else (none)) else (caulkerlaw10_KindPairs.l0 k x5 x6 x7 x63 (wrap64 (x64 + 1)) x234000 x234001 x234002 x234003 x235000 x235001 x235002 x235003)) else ((kind_Alike.f k x234000 x234001 x234002 x234003 x235000 x235001 x235002 x235003).bind fun t245 => (if (t245 == x5) = true then ((kind_Inside.f k x234000 x234001 x234002 x234003 x235000 x235001 x235002 x235003).bind fun t246 => (if (t246 == x6) = true then ((kind_Less.f k x234000 x234001 x234002 x234003 x235000 x235001 x235002 x235003).bind fun t247 => (some (t247 == x7))) else (none))) else (none)))
end
def caulkerlaw10_KindPairs.f (k : Nat) (a0_0 : Int) (a0_1 : ByteArray) (a0_2 : Int) (a0_3 : ByteArray) (a1_0 : Int) (a1_1 : ByteArray) (a1_2 : Int) (a1_3 : ByteArray) : Option (Bool) := (caulkerlaw10_sorts.f k).bind fun t235 => (if t235 = true then ((caulkerlaw10_small.f k (([(⟨a0_0, a0_1, a0_2, a0_3⟩ : S23), (⟨a1_0, a1_1, a1_2, a1_3⟩ : S23)] : List (S23)))).bind fun t239 => (if t239 = true then ((caulkerlaw10_right.f k a0_0 a0_1 a0_2 a0_3).bind fun t240 => (if t240 = true then ((caulkerlaw10_right.f k a1_0 a1_1 a1_2 a1_3).bind fun t241 => (caulkerlaw10_KindPairs.j0 k (!t241) a0_0 a0_1 a0_2 a0_3 a1_0 a1_1 a1_2 a1_3)) else (caulkerlaw10_KindPairs.j0 k true a0_0 a0_1 a0_2 a0_3 a1_0 a1_1 a1_2 a1_3))) else (some true))) else (none))
theorem caulkerlaw10_KindPairs.mono_l : ∀ k, (∀ y0 y1 y2 y3 y4 y5 y6 y7 y8, LeO (caulkerlaw10_KindPairs.j0 k y0 y1 y2 y3 y4 y5 y6 y7 y8) (caulkerlaw10_KindPairs.j0 (k + 1) y0 y1 y2 y3 y4 y5 y6 y7 y8)) ∧ (∀ y0 y1 y2 y3 y4 y5 y6 y7 y8, LeO (caulkerlaw10_KindPairs.j1 k y0 y1 y2 y3 y4 y5 y6 y7 y8) (caulkerlaw10_KindPairs.j1 (k + 1) y0 y1 y2 y3 y4 y5 y6 y7 y8)) ∧ (∀ y0 y1 y2 y3 y4 y5 y6 y7 y8 y9 y10 y11 y12, LeO (caulkerlaw10_KindPairs.l0 k y0 y1 y2 y3 y4 y5 y6 y7 y8 y9 y10 y11 y12) (caulkerlaw10_KindPairs.l0 (k + 1) y0 y1 y2 y3 y4 y5 y6 y7 y8 y9 y10 y11 y12))
 | 0 => ⟨fun _ _ _ _ _ _ _ _ _ r h => by simp [caulkerlaw10_KindPairs.j0] at h, fun _ _ _ _ _ _ _ _ _ r h => by simp [caulkerlaw10_KindPairs.j1] at h, fun _ _ _ _ _ _ _ _ _ _ _ _ _ r h => by simp [caulkerlaw10_KindPairs.l0] at h⟩
 | k + 1 => by
  obtain ⟨ih0, ih1, ih2⟩ := caulkerlaw10_KindPairs.mono_l k
  refine ⟨?_, ?_, ?_⟩
  ·intro y0 y1 y2 y3 y4 y5 y6 y7 y8
   unfold caulkerlaw10_KindPairs.j0
   repeat' first
   | (with_reducible exact ih0 _ _ _ _ _ _ _ _ _)
   | (with_reducible exact ih1 _ _ _ _ _ _ _ _ _)
   | (with_reducible exact ih2 _ _ _ _ _ _ _ _ _ _ _ _ _)
   | (with_reducible exact caulkerlaw10_right.mono _ _ _ _ _)
   | (with_reducible exact caulkerlaw10_small.mono _ _)
   | (with_reducible exact caulkerlaw10_sorts.mono _)
   | (with_reducible exact kind_Alike.mono _ _ _ _ _ _ _ _ _)
   | (with_reducible exact kind_Inside.mono _ _ _ _ _ _ _ _ _)
   | (with_reducible exact kind_Less.mono _ _ _ _ _ _ _ _ _)
   | (with_reducible exact LeO.refl _)
   | (with_reducible exact LeO.none _)
   | (with_reducible refine LeO.ite ?_ ?_)
   | (with_reducible refine LeO.bind ?_ (fun _ => ?_))
   | exact ih0 _ _ _ _ _ _ _ _ _
   | exact ih1 _ _ _ _ _ _ _ _ _
   | exact ih2 _ _ _ _ _ _ _ _ _ _ _ _ _
   | exact caulkerlaw10_right.mono _ _ _ _ _
   | exact caulkerlaw10_small.mono _ _
   | exact caulkerlaw10_sorts.mono _
   | exact kind_Alike.mono _ _ _ _ _ _ _ _ _
   | exact kind_Inside.mono _ _ _ _ _ _ _ _ _
   | exact kind_Less.mono _ _ _ _ _ _ _ _ _
   | exact LeO.none _
   | refine LeO.ite ?_ ?_
   | refine LeO.bind ?_ (fun _ => ?_)
  ·intro y0 y1 y2 y3 y4 y5 y6 y7 y8
   unfold caulkerlaw10_KindPairs.j1
   repeat' first
   | (with_reducible exact ih0 _ _ _ _ _ _ _ _ _)
   | (with_reducible exact ih1 _ _ _ _ _ _ _ _ _)
   | (with_reducible exact ih2 _ _ _ _ _ _ _ _ _ _ _ _ _)
   | (with_reducible exact caulkerlaw10_right.mono _ _ _ _ _)
   | (with_reducible exact caulkerlaw10_small.mono _ _)
   | (with_reducible exact caulkerlaw10_sorts.mono _)
   | (with_reducible exact kind_Alike.mono _ _ _ _ _ _ _ _ _)
   | (with_reducible exact kind_Inside.mono _ _ _ _ _ _ _ _ _)
   | (with_reducible exact kind_Less.mono _ _ _ _ _ _ _ _ _)
   | (with_reducible exact LeO.refl _)
   | (with_reducible exact LeO.none _)
   | (with_reducible refine LeO.ite ?_ ?_)
   | (with_reducible refine LeO.bind ?_ (fun _ => ?_))
   | exact ih0 _ _ _ _ _ _ _ _ _
   | exact ih1 _ _ _ _ _ _ _ _ _
   | exact ih2 _ _ _ _ _ _ _ _ _ _ _ _ _
   | exact caulkerlaw10_right.mono _ _ _ _ _
   | exact caulkerlaw10_small.mono _ _
   | exact caulkerlaw10_sorts.mono _
   | exact kind_Alike.mono _ _ _ _ _ _ _ _ _
   | exact kind_Inside.mono _ _ _ _ _ _ _ _ _
   | exact kind_Less.mono _ _ _ _ _ _ _ _ _
   | exact LeO.none _
   | refine LeO.ite ?_ ?_
   | refine LeO.bind ?_ (fun _ => ?_)
  ·intro y0 y1 y2 y3 y4 y5 y6 y7 y8 y9 y10 y11 y12
   unfold caulkerlaw10_KindPairs.l0
   repeat' first
   | (with_reducible exact ih0 _ _ _ _ _ _ _ _ _)
   | (with_reducible exact ih1 _ _ _ _ _ _ _ _ _)
   | (with_reducible exact ih2 _ _ _ _ _ _ _ _ _ _ _ _ _)
   | (with_reducible exact caulkerlaw10_right.mono _ _ _ _ _)
   | (with_reducible exact caulkerlaw10_small.mono _ _)
   | (with_reducible exact caulkerlaw10_sorts.mono _)
   | (with_reducible exact kind_Alike.mono _ _ _ _ _ _ _ _ _)
   | (with_reducible exact kind_Inside.mono _ _ _ _ _ _ _ _ _)
   | (with_reducible exact kind_Less.mono _ _ _ _ _ _ _ _ _)
   | (with_reducible exact LeO.refl _)
   | (with_reducible exact LeO.none _)
   | (with_reducible refine LeO.ite ?_ ?_)
   | (with_reducible refine LeO.bind ?_ (fun _ => ?_))
   | exact ih0 _ _ _ _ _ _ _ _ _
   | exact ih1 _ _ _ _ _ _ _ _ _
   | exact ih2 _ _ _ _ _ _ _ _ _ _ _ _ _
   | exact caulkerlaw10_right.mono _ _ _ _ _
   | exact caulkerlaw10_small.mono _ _
   | exact caulkerlaw10_sorts.mono _
   | exact kind_Alike.mono _ _ _ _ _ _ _ _ _
   | exact kind_Inside.mono _ _ _ _ _ _ _ _ _
   | exact kind_Less.mono _ _ _ _ _ _ _ _ _
   | exact LeO.none _
   | refine LeO.ite ?_ ?_
   | refine LeO.bind ?_ (fun _ => ?_)
theorem caulkerlaw10_KindPairs.mono : ∀ a0 a1 a2 a3 a4 a5 a6 a7 k, LeO (caulkerlaw10_KindPairs.f k a0 a1 a2 a3 a4 a5 a6 a7) (caulkerlaw10_KindPairs.f (k + 1) a0 a1 a2 a3 a4 a5 a6 a7) := by
 intro a0 a1 a2 a3 a4 a5 a6 a7 k
 obtain ⟨ih0, ih1, ih2⟩ := caulkerlaw10_KindPairs.mono_l k
 unfold caulkerlaw10_KindPairs.f
 repeat' first
   | (with_reducible exact ih0 _ _ _ _ _ _ _ _ _)
   | (with_reducible exact ih1 _ _ _ _ _ _ _ _ _)
   | (with_reducible exact ih2 _ _ _ _ _ _ _ _ _ _ _ _ _)
   | (with_reducible exact caulkerlaw10_right.mono _ _ _ _ _)
   | (with_reducible exact caulkerlaw10_small.mono _ _)
   | (with_reducible exact caulkerlaw10_sorts.mono _)
   | (with_reducible exact kind_Alike.mono _ _ _ _ _ _ _ _ _)
   | (with_reducible exact kind_Inside.mono _ _ _ _ _ _ _ _ _)
   | (with_reducible exact kind_Less.mono _ _ _ _ _ _ _ _ _)
   | (with_reducible exact LeO.refl _)
   | (with_reducible exact LeO.none _)
   | (with_reducible refine LeO.ite ?_ ?_)
   | (with_reducible refine LeO.bind ?_ (fun _ => ?_))
   | exact ih0 _ _ _ _ _ _ _ _ _
   | exact ih1 _ _ _ _ _ _ _ _ _
   | exact ih2 _ _ _ _ _ _ _ _ _ _ _ _ _
   | exact caulkerlaw10_right.mono _ _ _ _ _
   | exact caulkerlaw10_small.mono _ _
   | exact caulkerlaw10_sorts.mono _
   | exact kind_Alike.mono _ _ _ _ _ _ _ _ _
   | exact kind_Inside.mono _ _ _ _ _ _ _ _ _
   | exact kind_Less.mono _ _ _ _ _ _ _ _ _
   | exact LeO.none _
   | refine LeO.ite ?_ ?_
   | refine LeO.bind ?_ (fun _ => ?_)
set_option maxHeartbeats 8000000 in
set_option maxRecDepth 100000 in
theorem caulkerlaw10_KindPairs.calls (k : Nat) (a0_0 : Int) (a0_1 : ByteArray) (a0_2 : Int) (a0_3 : ByteArray) (a1_0 : Int) (a1_1 : ByteArray) (a1_2 : Int) (a1_3 : ByteArray) (r : Bool) (w : World) (h : caulkerlaw10_KindPairs.f k a0_0 a0_1 a0_2 a0_3 a1_0 a1_1 a1_2 a1_3 = some r) :
  Calls Try.prog 3 #[.agg #[.int .i64 a0_0, .string a0_1, .int .i64 a0_2, .string a0_3], .agg #[.int .i64 a1_0, .string a1_1, .int .i64 a1_2, .string a1_3]] w fun e w' => e = .returned (.bool r) ∧ Below w.heap.size w w' := by
 have hu23 := Try.underlying23
 have HB := Aside0.mk (Below.refl w.heap.size w)
 have H : ((caulkerlaw10_sorts.f k).bind fun t235 => (if t235 = true then ((caulkerlaw10_small.f k (([(⟨a0_0, a0_1, a0_2, a0_3⟩ : S23), (⟨a1_0, a1_1, a1_2, a1_3⟩ : S23)] : List (S23)))).bind fun t239 => (if t239 = true then ((caulkerlaw10_right.f k a0_0 a0_1 a0_2 a0_3).bind fun t240 => (if t240 = true then ((caulkerlaw10_right.f k a1_0 a1_1 a1_2 a1_3).bind fun t241 => (caulkerlaw10_KindPairs.j0 k (!t241) a0_0 a0_1 a0_2 a0_3 a1_0 a1_1 a1_2 a1_3)) else (caulkerlaw10_KindPairs.j0 k true a0_0 a0_1 a0_2 a0_3 a1_0 a1_1 a1_2 a1_3))) else (some true))) else (none))) = some r := h
 clear h
 replace H := Option.bind_eq_some_iff.mp H
 obtain ⟨t235, A30, H⟩ := H
 replace H : (if t235 = true then ((caulkerlaw10_small.f k (([(⟨a0_0, a0_1, a0_2, a0_3⟩ : S23), (⟨a1_0, a1_1, a1_2, a1_3⟩ : S23)] : List (S23)))).bind fun t239 => (if t239 = true then ((caulkerlaw10_right.f k a0_0 a0_1 a0_2 a0_3).bind fun t240 => (if t240 = true then ((caulkerlaw10_right.f k a1_0 a1_1 a1_2 a1_3).bind fun t241 => (caulkerlaw10_KindPairs.j0 k (!t241) a0_0 a0_1 a0_2 a0_3 a1_0 a1_1 a1_2 a1_3)) else (caulkerlaw10_KindPairs.j0 k true a0_0 a0_1 a0_2 a0_3 a1_0 a1_1 a1_2 a1_3))) else (some true))) else (none)) = some r := H
 have A3 := Aside0.mk A30
 clear A30
 by_cases c4 : t235 = true
 ·subst c4
  have H1 : ((caulkerlaw10_small.f k (([(⟨a0_0, a0_1, a0_2, a0_3⟩ : S23), (⟨a1_0, a1_1, a1_2, a1_3⟩ : S23)] : List (S23)))).bind fun t239 => (if t239 = true then ((caulkerlaw10_right.f k a0_0 a0_1 a0_2 a0_3).bind fun t240 => (if t240 = true then ((caulkerlaw10_right.f k a1_0 a1_1 a1_2 a1_3).bind fun t241 => (caulkerlaw10_KindPairs.j0 k (!t241) a0_0 a0_1 a0_2 a0_3 a1_0 a1_1 a1_2 a1_3)) else (caulkerlaw10_KindPairs.j0 k true a0_0 a0_1 a0_2 a0_3 a1_0 a1_1 a1_2 a1_3))) else (some true))) = some r := by rw [if_pos rfl] at H; exact H
  clear H
  have H := H1
  clear H1
  obtain ⟨y236, hy236⟩ : ∃ y_ : List (S23), y_ = (([(⟨a0_0, a0_1, a0_2, a0_3⟩ : S23), (⟨a1_0, a1_1, a1_2, a1_3⟩ : S23)] : List (S23))) := ⟨_, rfl⟩
  replace H : ((caulkerlaw10_small.f k y236).bind fun t239 => (if t239 = true then ((caulkerlaw10_right.f k a0_0 a0_1 a0_2 a0_3).bind fun t240 => (if t240 = true then ((caulkerlaw10_right.f k a1_0 a1_1 a1_2 a1_3).bind fun t241 => (caulkerlaw10_KindPairs.j0 k (!t241) a0_0 a0_1 a0_2 a0_3 a1_0 a1_1 a1_2 a1_3)) else (caulkerlaw10_KindPairs.j0 k true a0_0 a0_1 a0_2 a0_3 a1_0 a1_1 a1_2 a1_3))) else (some true))) = some r := by first | (rw [hy236]; with_reducible exact H) | (have H2_ := (Option.bind_some _ _).symm.trans H; rw [hy236]; with_reducible exact H2_) | (have H2_ := (Option.bind_some _ _).symm.trans H; with_reducible exact H2_) | with_reducible exact H | (rw [hy236]; exact H) | exact H
  have Ny236 := Aside0.mk hy236
  clear hy236
  replace H := Option.bind_eq_some_iff.mp H
  obtain ⟨t239, A50, H⟩ := H
  replace H : (if t239 = true then ((caulkerlaw10_right.f k a0_0 a0_1 a0_2 a0_3).bind fun t240 => (if t240 = true then ((caulkerlaw10_right.f k a1_0 a1_1 a1_2 a1_3).bind fun t241 => (caulkerlaw10_KindPairs.j0 k (!t241) a0_0 a0_1 a0_2 a0_3 a1_0 a1_1 a1_2 a1_3)) else (caulkerlaw10_KindPairs.j0 k true a0_0 a0_1 a0_2 a0_3 a1_0 a1_1 a1_2 a1_3))) else (some true)) = some r := H
  have A5 := Aside0.mk A50
  clear A50
  by_cases c6 : t239 = true
  ·subst c6
   have H1 : ((caulkerlaw10_right.f k a0_0 a0_1 a0_2 a0_3).bind fun t240 => (if t240 = true then ((caulkerlaw10_right.f k a1_0 a1_1 a1_2 a1_3).bind fun t241 => (caulkerlaw10_KindPairs.j0 k (!t241) a0_0 a0_1 a0_2 a0_3 a1_0 a1_1 a1_2 a1_3)) else (caulkerlaw10_KindPairs.j0 k true a0_0 a0_1 a0_2 a0_3 a1_0 a1_1 a1_2 a1_3))) = some r := by rw [if_pos rfl] at H; exact H
   clear H
   have H := H1
   clear H1
   have HC7 := Aside0.mk H
   clear H
   go_enter Try.func3, Try.ntmps3
   go_upto_region 5 with (first | ((with_reducible refine gate_dst (N := 2) rfl ?_); refine box_event ?hg (N := 2) ?hd (cs := #[.int .i64 a0_0, .string a0_1, .int .i64 a0_2, .string a0_3]) (t := 23) ?hr ?_; (case hd => rfl); (case hg => rfl); (case hr => first | (go_simp; done) | (go_simp; rfl)); intro gb233 hg w8 hbox hb; have n0_ := pxs HB hb; have n1_ := Aside0.mk (hbox); have n2_ := Aside0.mk ((by rw [hg]; exact (below_size (pxb HB)) : w.heap.size ≤ gb233)); have n3_ := Aside0.mk ((by rw [hg]; exact (below_size (pxb HB)) : w.heap.size ≤ gb233)); clear HB; have HB := n0_; have BK233 := n1_; have GW233 := n2_; have GE233 := n3_; clear n0_ n1_ n2_ n3_; clear hb hbox hg) | ((with_reducible refine gate_dst (N := 3) rfl ?_); refine box_event ?hg (N := 3) ?hd (cs := #[.int .i64 a1_0, .string a1_1, .int .i64 a1_2, .string a1_3]) (t := 23) ?hr ?_; (case hd => rfl); (case hg => rfl); (case hr => first | (go_simp; done) | (go_simp; rfl)); intro gb234 hg w9 hbox hb; have n0_ := pxk BK233 hb; have n1_ := pxs HB hb; have n2_ := Aside0.mk (hbox); have n3_ := Aside0.mk ((by rw [hg]; exact (below_size (pxb HB)) : w.heap.size ≤ gb234)); have n4_ := Aside0.mk ((by rw [hg]; exact (below_size (pxb HB)) : w.heap.size ≤ gb234)); have n5_ := Aside0.mk ((by rw [hg]; exact Nat.ne_of_lt (blk_lt (g := gb233) (o := .cells #[.int .i64 a0_0, .string a0_1, .int .i64 a0_2, .string a0_3] 23 (0, 0)) (pxq BK233)) : gb233 ≠ gb234)); have n6_ := Aside0.mk ((by rw [hg]; exact Nat.ne_of_gt (blk_lt (g := gb233) (o := .cells #[.int .i64 a0_0, .string a0_1, .int .i64 a0_2, .string a0_3] 23 (0, 0)) (pxq BK233)) : gb234 ≠ gb233)); clear BK233; clear HB; have BK233 := n0_; have HB := n1_; have BK234 := n2_; have GW234 := n3_; have GE234 := n4_; have NB233_234 := n5_; have NB234_233 := n6_; clear n0_ n1_ n2_ n3_ n4_ n5_ n6_; clear hb hbox hg) | (go_at_call 9; (with_reducible refine (caulkerlaw10_sorts.calls k  true _ A3.out).mono ?_); rintro e w10 ⟨rfl, hb⟩; have n0_ := pxk BK233 hb; have n1_ := pxk BK234 hb; have n2_ := pxs HB hb; clear BK233; clear BK234; clear HB; have BK233 := n0_; have BK234 := n1_; have HB := n2_; clear n0_ n1_ n2_; (try clear hb); (try clear hb2); (try clear hk); (try clear hi); have hnb11 := NB233_234.out; have hnc11 := NB234_233.out; have hcz12_0 : w10.cell? ⟨gb233, 0, none⟩ = some (.int .i64 a0_0) := (blk_cell BK233.out 0).trans rfl; have hcz12_1 : w10.cell? ⟨gb233, 1, none⟩ = some (.string a0_1) := (blk_cell BK233.out 1).trans rfl; have hcz12_2 : w10.cell? ⟨gb233, 2, none⟩ = some (.int .i64 a0_2) := (blk_cell BK233.out 2).trans rfl; have hcz12_3 : w10.cell? ⟨gb233, 3, none⟩ = some (.string a0_3) := (blk_cell BK233.out 3).trans rfl; have hfz12_0 := blk_frozen BK233.out 0; have hfz12_1 := blk_frozen BK233.out 1; have hfz12_2 := blk_frozen BK233.out 2; have hfz12_3 := blk_frozen BK233.out 3; have hcz13_0 : w10.cell? ⟨gb234, 0, none⟩ = some (.int .i64 a1_0) := (blk_cell BK234.out 0).trans rfl; have hcz13_1 : w10.cell? ⟨gb234, 1, none⟩ = some (.string a1_1) := (blk_cell BK234.out 1).trans rfl; have hcz13_2 : w10.cell? ⟨gb234, 2, none⟩ = some (.int .i64 a1_2) := (blk_cell BK234.out 2).trans rfl; have hcz13_3 : w10.cell? ⟨gb234, 3, none⟩ = some (.string a1_3) := (blk_cell BK234.out 3).trans rfl; have hfz13_0 := blk_frozen BK234.out 0; have hfz13_1 := blk_frozen BK234.out 1; have hfz13_2 := blk_frozen BK234.out 2; have hfz13_3 := blk_frozen BK234.out 3) | ((with_reducible refine gate_dst (N := 13) rfl ?_); refine Kd.R_lit k23 _ 23 ?hg (N := 13) ?hd (xs := ([(⟨a0_0, a0_1, a0_2, a0_3⟩ : S23), (⟨a1_0, a1_1, a1_2, a1_3⟩ : S23)] : List (S23))) (inner := [.int .i64 a0_0, .string a0_1, .int .i64 a0_2, .string a0_3, .int .i64 a1_0, .string a1_1, .int .i64 a1_2, .string a1_3]) (ok := fun _ => True) (okp := fun _ => True) ?hr ?hp (fun _ hk => hk) trivial (Below.refl _ _) (Nat.le_refl _) (by simp) ?_; (case hd => rfl); (case hg => rfl); (case hr => first | (go_simp; done) | (go_simp; rfl)); (case hp => exact (Reps.c4 (show Kd.M k23 _ _ _ (⟨a0_0, a0_1, a0_2, a0_3⟩ : S23) [.int .i64 a0_0, .string a0_1, .int .i64 a0_2, .string a0_3] from (k23_mkM _ _ _ (⟨a0_0, a0_1, a0_2, a0_3⟩ : S23) )) (Reps.c4 (show Kd.M k23 _ _ _ (⟨a1_0, a1_1, a1_2, a1_3⟩ : S23) [.int .i64 a1_0, .string a1_1, .int .i64 a1_2, .string a1_3] from (k23_mkM _ _ _ (⟨a1_0, a1_1, a1_2, a1_3⟩ : S23) )) (Reps.none _ _)))); intro v237 w14 ho15 hb hg_ hnew_; clear hg_ hnew_; (first | rw [← Ny236.out] at ho15 | (simp only [Int.reduceToNat] at ho15; rw [← Ny236.out] at ho15)); have n0_ := Aside0.mk (Kd.R_lower (Kd.R_newB (Kd.R_newB ho15 (g := gb233) (o := .cells #[.int .i64 a0_0, .string a0_1, .int .i64 a0_2, .string a0_3] 23 (0, 0)) (pxq BK233)) (g := gb234) (o := .cells #[.int .i64 a1_0, .string a1_1, .int .i64 a1_2, .string a1_3] 23 (0, 0)) (pxq BK234)) (below_size (pxb HB))); have n1_ := pxk BK233 hb; have n2_ := pxk BK234 hb; have n3_ := pxs HB hb; clear BK233; clear BK234; clear HB; have HO238 := n0_; have BK233 := n1_; have BK234 := n2_; have HB := n3_; clear n0_ n1_ n2_ n3_; clear hb ho15; obtain ⟨Ao16, co16, eo16⟩ := Kd.R_slice HO238.out; subst eo16) | (go_at_call 10; (with_reducible refine (caulkerlaw10_small.calls k _ _ y236 true _ ?side1 ?side2 A5.out).mono ?_); (case side1 => repeat (first | exact (Kd.R_reads' HO238.out).2.2 | (with_reducible refine Kd.C_alloc ?_ _) | (with_reducible refine Kd.C_drewN ?_ _) | (with_reducible refine Kd.C_drew ?_))); (case side2 => exact (Kd.R_reads' HO238.out).2.1); rintro e w17 ⟨rfl, hb⟩; have n0_ := Aside0.mk (Kd.R_below (pxr HO238) hb); have n1_ := pxk BK233 hb; have n2_ := pxk BK234 hb; have n3_ := pxs HB hb; clear HO238; clear BK233; clear BK234; clear HB; have HO238 := n0_; have BK233 := n1_; have BK234 := n2_; have HB := n3_; clear n0_ n1_ n2_ n3_; (try clear hb); (try clear hb2); (try clear hk); (try clear hi)))
   repeat (go_quiet (first | ((with_reducible refine gate_dst (N := 2) rfl ?_); refine box_event ?hg (N := 2) ?hd (cs := #[.int .i64 a0_0, .string a0_1, .int .i64 a0_2, .string a0_3]) (t := 23) ?hr ?_; (case hd => rfl); (case hg => rfl); (case hr => first | (go_simp; done) | (go_simp; rfl)); intro gb233 hg w8 hbox hb; have n0_ := pxs HB hb; have n1_ := Aside0.mk (hbox); have n2_ := Aside0.mk ((by rw [hg]; exact (below_size (pxb HB)) : w.heap.size ≤ gb233)); have n3_ := Aside0.mk ((by rw [hg]; exact (below_size (pxb HB)) : w.heap.size ≤ gb233)); clear HB; have HB := n0_; have BK233 := n1_; have GW233 := n2_; have GE233 := n3_; clear n0_ n1_ n2_ n3_; clear hb hbox hg) | ((with_reducible refine gate_dst (N := 3) rfl ?_); refine box_event ?hg (N := 3) ?hd (cs := #[.int .i64 a1_0, .string a1_1, .int .i64 a1_2, .string a1_3]) (t := 23) ?hr ?_; (case hd => rfl); (case hg => rfl); (case hr => first | (go_simp; done) | (go_simp; rfl)); intro gb234 hg w9 hbox hb; have n0_ := pxk BK233 hb; have n1_ := pxs HB hb; have n2_ := Aside0.mk (hbox); have n3_ := Aside0.mk ((by rw [hg]; exact (below_size (pxb HB)) : w.heap.size ≤ gb234)); have n4_ := Aside0.mk ((by rw [hg]; exact (below_size (pxb HB)) : w.heap.size ≤ gb234)); have n5_ := Aside0.mk ((by rw [hg]; exact Nat.ne_of_lt (blk_lt (g := gb233) (o := .cells #[.int .i64 a0_0, .string a0_1, .int .i64 a0_2, .string a0_3] 23 (0, 0)) (pxq BK233)) : gb233 ≠ gb234)); have n6_ := Aside0.mk ((by rw [hg]; exact Nat.ne_of_gt (blk_lt (g := gb233) (o := .cells #[.int .i64 a0_0, .string a0_1, .int .i64 a0_2, .string a0_3] 23 (0, 0)) (pxq BK233)) : gb234 ≠ gb233)); clear BK233; clear HB; have BK233 := n0_; have HB := n1_; have BK234 := n2_; have GW234 := n3_; have GE234 := n4_; have NB233_234 := n5_; have NB234_233 := n6_; clear n0_ n1_ n2_ n3_ n4_ n5_ n6_; clear hb hbox hg) | (go_at_call 9; (with_reducible refine (caulkerlaw10_sorts.calls k  true _ A3.out).mono ?_); rintro e w10 ⟨rfl, hb⟩; have n0_ := pxk BK233 hb; have n1_ := pxk BK234 hb; have n2_ := pxs HB hb; clear BK233; clear BK234; clear HB; have BK233 := n0_; have BK234 := n1_; have HB := n2_; clear n0_ n1_ n2_; (try clear hb); (try clear hb2); (try clear hk); (try clear hi); have hnb11 := NB233_234.out; have hnc11 := NB234_233.out; have hcz12_0 : w10.cell? ⟨gb233, 0, none⟩ = some (.int .i64 a0_0) := (blk_cell BK233.out 0).trans rfl; have hcz12_1 : w10.cell? ⟨gb233, 1, none⟩ = some (.string a0_1) := (blk_cell BK233.out 1).trans rfl; have hcz12_2 : w10.cell? ⟨gb233, 2, none⟩ = some (.int .i64 a0_2) := (blk_cell BK233.out 2).trans rfl; have hcz12_3 : w10.cell? ⟨gb233, 3, none⟩ = some (.string a0_3) := (blk_cell BK233.out 3).trans rfl; have hfz12_0 := blk_frozen BK233.out 0; have hfz12_1 := blk_frozen BK233.out 1; have hfz12_2 := blk_frozen BK233.out 2; have hfz12_3 := blk_frozen BK233.out 3; have hcz13_0 : w10.cell? ⟨gb234, 0, none⟩ = some (.int .i64 a1_0) := (blk_cell BK234.out 0).trans rfl; have hcz13_1 : w10.cell? ⟨gb234, 1, none⟩ = some (.string a1_1) := (blk_cell BK234.out 1).trans rfl; have hcz13_2 : w10.cell? ⟨gb234, 2, none⟩ = some (.int .i64 a1_2) := (blk_cell BK234.out 2).trans rfl; have hcz13_3 : w10.cell? ⟨gb234, 3, none⟩ = some (.string a1_3) := (blk_cell BK234.out 3).trans rfl; have hfz13_0 := blk_frozen BK234.out 0; have hfz13_1 := blk_frozen BK234.out 1; have hfz13_2 := blk_frozen BK234.out 2; have hfz13_3 := blk_frozen BK234.out 3) | ((with_reducible refine gate_dst (N := 13) rfl ?_); refine Kd.R_lit k23 _ 23 ?hg (N := 13) ?hd (xs := ([(⟨a0_0, a0_1, a0_2, a0_3⟩ : S23), (⟨a1_0, a1_1, a1_2, a1_3⟩ : S23)] : List (S23))) (inner := [.int .i64 a0_0, .string a0_1, .int .i64 a0_2, .string a0_3, .int .i64 a1_0, .string a1_1, .int .i64 a1_2, .string a1_3]) (ok := fun _ => True) (okp := fun _ => True) ?hr ?hp (fun _ hk => hk) trivial (Below.refl _ _) (Nat.le_refl _) (by simp) ?_; (case hd => rfl); (case hg => rfl); (case hr => first | (go_simp; done) | (go_simp; rfl)); (case hp => exact (Reps.c4 (show Kd.M k23 _ _ _ (⟨a0_0, a0_1, a0_2, a0_3⟩ : S23) [.int .i64 a0_0, .string a0_1, .int .i64 a0_2, .string a0_3] from (k23_mkM _ _ _ (⟨a0_0, a0_1, a0_2, a0_3⟩ : S23) )) (Reps.c4 (show Kd.M k23 _ _ _ (⟨a1_0, a1_1, a1_2, a1_3⟩ : S23) [.int .i64 a1_0, .string a1_1, .int .i64 a1_2, .string a1_3] from (k23_mkM _ _ _ (⟨a1_0, a1_1, a1_2, a1_3⟩ : S23) )) (Reps.none _ _)))); intro v237 w14 ho15 hb hg_ hnew_; clear hg_ hnew_; (first | rw [← Ny236.out] at ho15 | (simp only [Int.reduceToNat] at ho15; rw [← Ny236.out] at ho15)); have n0_ := Aside0.mk (Kd.R_lower (Kd.R_newB (Kd.R_newB ho15 (g := gb233) (o := .cells #[.int .i64 a0_0, .string a0_1, .int .i64 a0_2, .string a0_3] 23 (0, 0)) (pxq BK233)) (g := gb234) (o := .cells #[.int .i64 a1_0, .string a1_1, .int .i64 a1_2, .string a1_3] 23 (0, 0)) (pxq BK234)) (below_size (pxb HB))); have n1_ := pxk BK233 hb; have n2_ := pxk BK234 hb; have n3_ := pxs HB hb; clear BK233; clear BK234; clear HB; have HO238 := n0_; have BK233 := n1_; have BK234 := n2_; have HB := n3_; clear n0_ n1_ n2_ n3_; clear hb ho15; obtain ⟨Ao16, co16, eo16⟩ := Kd.R_slice HO238.out; subst eo16) | (go_at_call 10; (with_reducible refine (caulkerlaw10_small.calls k _ _ y236 true _ ?side1 ?side2 A5.out).mono ?_); (case side1 => repeat (first | exact (Kd.R_reads' HO238.out).2.2 | (with_reducible refine Kd.C_alloc ?_ _) | (with_reducible refine Kd.C_drewN ?_ _) | (with_reducible refine Kd.C_drew ?_))); (case side2 => exact (Kd.R_reads' HO238.out).2.1); rintro e w17 ⟨rfl, hb⟩; have n0_ := Aside0.mk (Kd.R_below (pxr HO238) hb); have n1_ := pxk BK233 hb; have n2_ := pxk BK234 hb; have n3_ := pxs HB hb; clear HO238; clear BK233; clear BK234; clear HB; have HO238 := n0_; have BK233 := n1_; have BK234 := n2_; have HB := n3_; clear n0_ n1_ n2_ n3_; (try clear hb); (try clear hb2); (try clear hk); (try clear hi))); go_upto_region 5 with (first | ((with_reducible refine gate_dst (N := 2) rfl ?_); refine box_event ?hg (N := 2) ?hd (cs := #[.int .i64 a0_0, .string a0_1, .int .i64 a0_2, .string a0_3]) (t := 23) ?hr ?_; (case hd => rfl); (case hg => rfl); (case hr => first | (go_simp; done) | (go_simp; rfl)); intro gb233 hg w8 hbox hb; have n0_ := pxs HB hb; have n1_ := Aside0.mk (hbox); have n2_ := Aside0.mk ((by rw [hg]; exact (below_size (pxb HB)) : w.heap.size ≤ gb233)); have n3_ := Aside0.mk ((by rw [hg]; exact (below_size (pxb HB)) : w.heap.size ≤ gb233)); clear HB; have HB := n0_; have BK233 := n1_; have GW233 := n2_; have GE233 := n3_; clear n0_ n1_ n2_ n3_; clear hb hbox hg) | ((with_reducible refine gate_dst (N := 3) rfl ?_); refine box_event ?hg (N := 3) ?hd (cs := #[.int .i64 a1_0, .string a1_1, .int .i64 a1_2, .string a1_3]) (t := 23) ?hr ?_; (case hd => rfl); (case hg => rfl); (case hr => first | (go_simp; done) | (go_simp; rfl)); intro gb234 hg w9 hbox hb; have n0_ := pxk BK233 hb; have n1_ := pxs HB hb; have n2_ := Aside0.mk (hbox); have n3_ := Aside0.mk ((by rw [hg]; exact (below_size (pxb HB)) : w.heap.size ≤ gb234)); have n4_ := Aside0.mk ((by rw [hg]; exact (below_size (pxb HB)) : w.heap.size ≤ gb234)); have n5_ := Aside0.mk ((by rw [hg]; exact Nat.ne_of_lt (blk_lt (g := gb233) (o := .cells #[.int .i64 a0_0, .string a0_1, .int .i64 a0_2, .string a0_3] 23 (0, 0)) (pxq BK233)) : gb233 ≠ gb234)); have n6_ := Aside0.mk ((by rw [hg]; exact Nat.ne_of_gt (blk_lt (g := gb233) (o := .cells #[.int .i64 a0_0, .string a0_1, .int .i64 a0_2, .string a0_3] 23 (0, 0)) (pxq BK233)) : gb234 ≠ gb233)); clear BK233; clear HB; have BK233 := n0_; have HB := n1_; have BK234 := n2_; have GW234 := n3_; have GE234 := n4_; have NB233_234 := n5_; have NB234_233 := n6_; clear n0_ n1_ n2_ n3_ n4_ n5_ n6_; clear hb hbox hg) | (go_at_call 9; (with_reducible refine (caulkerlaw10_sorts.calls k  true _ A3.out).mono ?_); rintro e w10 ⟨rfl, hb⟩; have n0_ := pxk BK233 hb; have n1_ := pxk BK234 hb; have n2_ := pxs HB hb; clear BK233; clear BK234; clear HB; have BK233 := n0_; have BK234 := n1_; have HB := n2_; clear n0_ n1_ n2_; (try clear hb); (try clear hb2); (try clear hk); (try clear hi); have hnb11 := NB233_234.out; have hnc11 := NB234_233.out; have hcz12_0 : w10.cell? ⟨gb233, 0, none⟩ = some (.int .i64 a0_0) := (blk_cell BK233.out 0).trans rfl; have hcz12_1 : w10.cell? ⟨gb233, 1, none⟩ = some (.string a0_1) := (blk_cell BK233.out 1).trans rfl; have hcz12_2 : w10.cell? ⟨gb233, 2, none⟩ = some (.int .i64 a0_2) := (blk_cell BK233.out 2).trans rfl; have hcz12_3 : w10.cell? ⟨gb233, 3, none⟩ = some (.string a0_3) := (blk_cell BK233.out 3).trans rfl; have hfz12_0 := blk_frozen BK233.out 0; have hfz12_1 := blk_frozen BK233.out 1; have hfz12_2 := blk_frozen BK233.out 2; have hfz12_3 := blk_frozen BK233.out 3; have hcz13_0 : w10.cell? ⟨gb234, 0, none⟩ = some (.int .i64 a1_0) := (blk_cell BK234.out 0).trans rfl; have hcz13_1 : w10.cell? ⟨gb234, 1, none⟩ = some (.string a1_1) := (blk_cell BK234.out 1).trans rfl; have hcz13_2 : w10.cell? ⟨gb234, 2, none⟩ = some (.int .i64 a1_2) := (blk_cell BK234.out 2).trans rfl; have hcz13_3 : w10.cell? ⟨gb234, 3, none⟩ = some (.string a1_3) := (blk_cell BK234.out 3).trans rfl; have hfz13_0 := blk_frozen BK234.out 0; have hfz13_1 := blk_frozen BK234.out 1; have hfz13_2 := blk_frozen BK234.out 2; have hfz13_3 := blk_frozen BK234.out 3) | ((with_reducible refine gate_dst (N := 13) rfl ?_); refine Kd.R_lit k23 _ 23 ?hg (N := 13) ?hd (xs := ([(⟨a0_0, a0_1, a0_2, a0_3⟩ : S23), (⟨a1_0, a1_1, a1_2, a1_3⟩ : S23)] : List (S23))) (inner := [.int .i64 a0_0, .string a0_1, .int .i64 a0_2, .string a0_3, .int .i64 a1_0, .string a1_1, .int .i64 a1_2, .string a1_3]) (ok := fun _ => True) (okp := fun _ => True) ?hr ?hp (fun _ hk => hk) trivial (Below.refl _ _) (Nat.le_refl _) (by simp) ?_; (case hd => rfl); (case hg => rfl); (case hr => first | (go_simp; done) | (go_simp; rfl)); (case hp => exact (Reps.c4 (show Kd.M k23 _ _ _ (⟨a0_0, a0_1, a0_2, a0_3⟩ : S23) [.int .i64 a0_0, .string a0_1, .int .i64 a0_2, .string a0_3] from (k23_mkM _ _ _ (⟨a0_0, a0_1, a0_2, a0_3⟩ : S23) )) (Reps.c4 (show Kd.M k23 _ _ _ (⟨a1_0, a1_1, a1_2, a1_3⟩ : S23) [.int .i64 a1_0, .string a1_1, .int .i64 a1_2, .string a1_3] from (k23_mkM _ _ _ (⟨a1_0, a1_1, a1_2, a1_3⟩ : S23) )) (Reps.none _ _)))); intro v237 w14 ho15 hb hg_ hnew_; clear hg_ hnew_; (first | rw [← Ny236.out] at ho15 | (simp only [Int.reduceToNat] at ho15; rw [← Ny236.out] at ho15)); have n0_ := Aside0.mk (Kd.R_lower (Kd.R_newB (Kd.R_newB ho15 (g := gb233) (o := .cells #[.int .i64 a0_0, .string a0_1, .int .i64 a0_2, .string a0_3] 23 (0, 0)) (pxq BK233)) (g := gb234) (o := .cells #[.int .i64 a1_0, .string a1_1, .int .i64 a1_2, .string a1_3] 23 (0, 0)) (pxq BK234)) (below_size (pxb HB))); have n1_ := pxk BK233 hb; have n2_ := pxk BK234 hb; have n3_ := pxs HB hb; clear BK233; clear BK234; clear HB; have HO238 := n0_; have BK233 := n1_; have BK234 := n2_; have HB := n3_; clear n0_ n1_ n2_ n3_; clear hb ho15; obtain ⟨Ao16, co16, eo16⟩ := Kd.R_slice HO238.out; subst eo16) | (go_at_call 10; (with_reducible refine (caulkerlaw10_small.calls k _ _ y236 true _ ?side1 ?side2 A5.out).mono ?_); (case side1 => repeat (first | exact (Kd.R_reads' HO238.out).2.2 | (with_reducible refine Kd.C_alloc ?_ _) | (with_reducible refine Kd.C_drewN ?_ _) | (with_reducible refine Kd.C_drew ?_))); (case side2 => exact (Kd.R_reads' HO238.out).2.1); rintro e w17 ⟨rfl, hb⟩; have n0_ := Aside0.mk (Kd.R_below (pxr HO238) hb); have n1_ := pxk BK233 hb; have n2_ := pxk BK234 hb; have n3_ := pxs HB hb; clear HO238; clear BK233; clear BK234; clear HB; have HO238 := n0_; have BK233 := n1_; have BK234 := n2_; have HB := n3_; clear n0_ n1_ n2_ n3_; (try clear hb); (try clear hb2); (try clear hk); (try clear hi))))
   (try simp only [Act.put, List.setIfInBounds_toArray, List.set_cons_zero, List.set_cons_succ])
   go_cut [23] (fun v23 wc => ∃ (kq : Nat) (x23_6 : Bool), v23 = .bool x23_6 ∧ Aside0 (caulkerlaw10_KindPairs.j0 kq x23_6 a0_0 a0_1 a0_2 a0_3 a1_0 a1_1 a1_2 a1_3 = some r) ∧ Aside0 (kq ≤ k) ∧ Aside0 (wc.heap[gb233]? = some (.cells #[.int .i64 a0_0, .string a0_1, .int .i64 a0_2, .string a0_3] 23 (0, 0))) ∧ Aside0 (wc.heap[gb234]? = some (.cells #[.int .i64 a1_0, .string a1_1, .int .i64 a1_2, .string a1_3] 23 (0, 0))) ∧ Aside0 (Below w.heap.size w wc))
   case first =>
    have H := HC7.out
    clear HC7
    replace H := Option.bind_eq_some_iff.mp H
    obtain ⟨t240, A180, H⟩ := H
    replace H : (if t240 = true then ((caulkerlaw10_right.f k a1_0 a1_1 a1_2 a1_3).bind fun t241 => (caulkerlaw10_KindPairs.j0 k (!t241) a0_0 a0_1 a0_2 a0_3 a1_0 a1_1 a1_2 a1_3)) else (caulkerlaw10_KindPairs.j0 k true a0_0 a0_1 a0_2 a0_3 a1_0 a1_1 a1_2 a1_3)) = some r := H
    have A18 := Aside0.mk A180
    clear A180
    by_cases c19 : t240 = true
    ·subst c19
     have H1 : ((caulkerlaw10_right.f k a1_0 a1_1 a1_2 a1_3).bind fun t241 => (caulkerlaw10_KindPairs.j0 k (!t241) a0_0 a0_1 a0_2 a0_3 a1_0 a1_1 a1_2 a1_3)) = some r := by rw [if_pos rfl] at H; exact H
     clear H
     have H := H1
     clear H1
     replace H := Option.bind_eq_some_iff.mp H
     obtain ⟨t241, A200, H⟩ := H
     replace H : (caulkerlaw10_KindPairs.j0 k (!t241) a0_0 a0_1 a0_2 a0_3 a1_0 a1_1 a1_2 a1_3) = some r := H
     have A20 := Aside0.mk A200
     clear A200
     have H' := Aside0.mk H
     clear H
     have hnb21 := NB233_234.out
     have hnc21 := NB234_233.out
     have hcz22_0 : w17.cell? ⟨gb233, 0, none⟩ = some (.int .i64 a0_0) := (blk_cell BK233.out 0).trans rfl
     have hcz22_1 : w17.cell? ⟨gb233, 1, none⟩ = some (.string a0_1) := (blk_cell BK233.out 1).trans rfl
     have hcz22_2 : w17.cell? ⟨gb233, 2, none⟩ = some (.int .i64 a0_2) := (blk_cell BK233.out 2).trans rfl
     have hcz22_3 : w17.cell? ⟨gb233, 3, none⟩ = some (.string a0_3) := (blk_cell BK233.out 3).trans rfl
     have hfz22_0 := blk_frozen BK233.out 0
     have hfz22_1 := blk_frozen BK233.out 1
     have hfz22_2 := blk_frozen BK233.out 2
     have hfz22_3 := blk_frozen BK233.out 3
     go_wp2_with (first | (go_at_call 11; (with_reducible refine (caulkerlaw10_right.calls k a0_0 a0_1 a0_2 a0_3 true _ A18.out).mono ?_); rintro e w23 ⟨rfl, hb⟩; have n0_ := Aside0.mk (Kd.R_below (pxr HO238) hb); have n1_ := pxk BK233 hb; have n2_ := pxk BK234 hb; have n3_ := pxs HB hb; clear HO238; clear BK233; clear BK234; clear HB; have HO238 := n0_; have BK233 := n1_; have BK234 := n2_; have HB := n3_; clear n0_ n1_ n2_ n3_; (try clear hb); (try clear hb2); (try clear hk); (try clear hi); have hcz24_0 : w23.cell? ⟨gb234, 0, none⟩ = some (.int .i64 a1_0) := (blk_cell BK234.out 0).trans rfl; have hcz24_1 : w23.cell? ⟨gb234, 1, none⟩ = some (.string a1_1) := (blk_cell BK234.out 1).trans rfl; have hcz24_2 : w23.cell? ⟨gb234, 2, none⟩ = some (.int .i64 a1_2) := (blk_cell BK234.out 2).trans rfl; have hcz24_3 : w23.cell? ⟨gb234, 3, none⟩ = some (.string a1_3) := (blk_cell BK234.out 3).trans rfl; have hfz24_0 := blk_frozen BK234.out 0; have hfz24_1 := blk_frozen BK234.out 1; have hfz24_2 := blk_frozen BK234.out 2; have hfz24_3 := blk_frozen BK234.out 3) | (go_at_call 11; (with_reducible refine (caulkerlaw10_right.calls k a1_0 a1_1 a1_2 a1_3 t241 _ A20.out).mono ?_); rintro e w25 ⟨rfl, hb⟩; have n0_ := Aside0.mk (Kd.R_below (pxr HO238) hb); have n1_ := pxk BK233 hb; have n2_ := pxk BK234 hb; have n3_ := pxs HB hb; clear HO238; clear BK233; clear BK234; clear HB; have HO238 := n0_; have BK233 := n1_; have BK234 := n2_; have HB := n3_; clear n0_ n1_ n2_ n3_; (try clear hb); (try clear hb2); (try clear hk); (try clear hi)))
     repeat (go_quiet (first | (go_at_call 11; (with_reducible refine (caulkerlaw10_right.calls k a0_0 a0_1 a0_2 a0_3 true _ A18.out).mono ?_); rintro e w23 ⟨rfl, hb⟩; have n0_ := Aside0.mk (Kd.R_below (pxr HO238) hb); have n1_ := pxk BK233 hb; have n2_ := pxk BK234 hb; have n3_ := pxs HB hb; clear HO238; clear BK233; clear BK234; clear HB; have HO238 := n0_; have BK233 := n1_; have BK234 := n2_; have HB := n3_; clear n0_ n1_ n2_ n3_; (try clear hb); (try clear hb2); (try clear hk); (try clear hi); have hcz24_0 : w23.cell? ⟨gb234, 0, none⟩ = some (.int .i64 a1_0) := (blk_cell BK234.out 0).trans rfl; have hcz24_1 : w23.cell? ⟨gb234, 1, none⟩ = some (.string a1_1) := (blk_cell BK234.out 1).trans rfl; have hcz24_2 : w23.cell? ⟨gb234, 2, none⟩ = some (.int .i64 a1_2) := (blk_cell BK234.out 2).trans rfl; have hcz24_3 : w23.cell? ⟨gb234, 3, none⟩ = some (.string a1_3) := (blk_cell BK234.out 3).trans rfl; have hfz24_0 := blk_frozen BK234.out 0; have hfz24_1 := blk_frozen BK234.out 1; have hfz24_2 := blk_frozen BK234.out 2; have hfz24_3 := blk_frozen BK234.out 3) | (go_at_call 11; (with_reducible refine (caulkerlaw10_right.calls k a1_0 a1_1 a1_2 a1_3 t241 _ A20.out).mono ?_); rintro e w25 ⟨rfl, hb⟩; have n0_ := Aside0.mk (Kd.R_below (pxr HO238) hb); have n1_ := pxk BK233 hb; have n2_ := pxk BK234 hb; have n3_ := pxs HB hb; clear HO238; clear BK233; clear BK234; clear HB; have HO238 := n0_; have BK233 := n1_; have BK234 := n2_; have HB := n3_; clear n0_ n1_ n2_ n3_; (try clear hb); (try clear hb2); (try clear hk); (try clear hi))); try go_wp2_with (first | (go_at_call 11; (with_reducible refine (caulkerlaw10_right.calls k a0_0 a0_1 a0_2 a0_3 true _ A18.out).mono ?_); rintro e w23 ⟨rfl, hb⟩; have n0_ := Aside0.mk (Kd.R_below (pxr HO238) hb); have n1_ := pxk BK233 hb; have n2_ := pxk BK234 hb; have n3_ := pxs HB hb; clear HO238; clear BK233; clear BK234; clear HB; have HO238 := n0_; have BK233 := n1_; have BK234 := n2_; have HB := n3_; clear n0_ n1_ n2_ n3_; (try clear hb); (try clear hb2); (try clear hk); (try clear hi); have hcz24_0 : w23.cell? ⟨gb234, 0, none⟩ = some (.int .i64 a1_0) := (blk_cell BK234.out 0).trans rfl; have hcz24_1 : w23.cell? ⟨gb234, 1, none⟩ = some (.string a1_1) := (blk_cell BK234.out 1).trans rfl; have hcz24_2 : w23.cell? ⟨gb234, 2, none⟩ = some (.int .i64 a1_2) := (blk_cell BK234.out 2).trans rfl; have hcz24_3 : w23.cell? ⟨gb234, 3, none⟩ = some (.string a1_3) := (blk_cell BK234.out 3).trans rfl; have hfz24_0 := blk_frozen BK234.out 0; have hfz24_1 := blk_frozen BK234.out 1; have hfz24_2 := blk_frozen BK234.out 2; have hfz24_3 := blk_frozen BK234.out 3) | (go_at_call 11; (with_reducible refine (caulkerlaw10_right.calls k a1_0 a1_1 a1_2 a1_3 t241 _ A20.out).mono ?_); rintro e w25 ⟨rfl, hb⟩; have n0_ := Aside0.mk (Kd.R_below (pxr HO238) hb); have n1_ := pxk BK233 hb; have n2_ := pxk BK234 hb; have n3_ := pxs HB hb; clear HO238; clear BK233; clear BK234; clear HB; have HO238 := n0_; have BK233 := n1_; have BK234 := n2_; have HB := n3_; clear n0_ n1_ n2_ n3_; (try clear hb); (try clear hb2); (try clear hk); (try clear hi))))
     go_meet
     case rel => exact ⟨_, (!t241), (by first | rfl | (simp; done) | (simp [*]; done)), H', ⟨by first | omega | exact Nat.le_refl _⟩, ⟨pxq BK233⟩, ⟨pxq BK234⟩, ⟨pxb HB⟩⟩
    ·replace c19 := Bool.eq_false_iff.mpr c19
     subst c19
     have H1 : (caulkerlaw10_KindPairs.j0 k true a0_0 a0_1 a0_2 a0_3 a1_0 a1_1 a1_2 a1_3) = some r := by rw [if_neg (show ¬ (false = true) by decide)] at H; exact H
     clear H
     have H := H1
     clear H1
     have H' := Aside0.mk H
     clear H
     have hnb26 := NB233_234.out
     have hnc26 := NB234_233.out
     have hcz27_0 : w17.cell? ⟨gb233, 0, none⟩ = some (.int .i64 a0_0) := (blk_cell BK233.out 0).trans rfl
     have hcz27_1 : w17.cell? ⟨gb233, 1, none⟩ = some (.string a0_1) := (blk_cell BK233.out 1).trans rfl
     have hcz27_2 : w17.cell? ⟨gb233, 2, none⟩ = some (.int .i64 a0_2) := (blk_cell BK233.out 2).trans rfl
     have hcz27_3 : w17.cell? ⟨gb233, 3, none⟩ = some (.string a0_3) := (blk_cell BK233.out 3).trans rfl
     have hfz27_0 := blk_frozen BK233.out 0
     have hfz27_1 := blk_frozen BK233.out 1
     have hfz27_2 := blk_frozen BK233.out 2
     have hfz27_3 := blk_frozen BK233.out 3
     go_wp2_with (first | (go_at_call 11; (with_reducible refine (caulkerlaw10_right.calls k a0_0 a0_1 a0_2 a0_3 false _ A18.out).mono ?_); rintro e w28 ⟨rfl, hb⟩; have n0_ := Aside0.mk (Kd.R_below (pxr HO238) hb); have n1_ := pxk BK233 hb; have n2_ := pxk BK234 hb; have n3_ := pxs HB hb; clear HO238; clear BK233; clear BK234; clear HB; have HO238 := n0_; have BK233 := n1_; have BK234 := n2_; have HB := n3_; clear n0_ n1_ n2_ n3_; (try clear hb); (try clear hb2); (try clear hk); (try clear hi)))
     repeat (go_quiet (first | (go_at_call 11; (with_reducible refine (caulkerlaw10_right.calls k a0_0 a0_1 a0_2 a0_3 false _ A18.out).mono ?_); rintro e w28 ⟨rfl, hb⟩; have n0_ := Aside0.mk (Kd.R_below (pxr HO238) hb); have n1_ := pxk BK233 hb; have n2_ := pxk BK234 hb; have n3_ := pxs HB hb; clear HO238; clear BK233; clear BK234; clear HB; have HO238 := n0_; have BK233 := n1_; have BK234 := n2_; have HB := n3_; clear n0_ n1_ n2_ n3_; (try clear hb); (try clear hb2); (try clear hk); (try clear hi))); try go_wp2_with (first | (go_at_call 11; (with_reducible refine (caulkerlaw10_right.calls k a0_0 a0_1 a0_2 a0_3 false _ A18.out).mono ?_); rintro e w28 ⟨rfl, hb⟩; have n0_ := Aside0.mk (Kd.R_below (pxr HO238) hb); have n1_ := pxk BK233 hb; have n2_ := pxk BK234 hb; have n3_ := pxs HB hb; clear HO238; clear BK233; clear BK234; clear HB; have HO238 := n0_; have BK233 := n1_; have BK234 := n2_; have HB := n3_; clear n0_ n1_ n2_ n3_; (try clear hb); (try clear hb2); (try clear hk); (try clear hi))))
     go_meet
     case rel => exact ⟨_, (true), (by first | rfl | (simp; done) | (simp [*]; done)), H', ⟨by first | omega | exact Nat.le_refl _⟩, ⟨pxq BK233⟩, ⟨pxq BK234⟩, ⟨pxb HB⟩⟩
   case rest => as_aux_lemma =>
    clear HC7
    try clear c1
    try clear c2
    try clear p2
    try clear c3
    try clear c4
    try clear c6
    try clear c11
    try clear c19
    try clear c21
    try clear c26
    try clear hcz12_0
    try clear hcz12_1
    try clear hcz12_2
    try clear hcz12_3
    try clear hcz13_0
    try clear hcz13_1
    try clear hcz13_2
    try clear hcz13_3
    try clear hcz22_0
    try clear hcz22_1
    try clear hcz22_2
    try clear hcz22_3
    try clear hcz24_0
    try clear hcz24_1
    try clear hcz24_2
    try clear hcz24_3
    try clear hcz27_0
    try clear hcz27_1
    try clear hcz27_2
    try clear hcz27_3
    try clear hfz12_0
    try clear hfz12_1
    try clear hfz12_2
    try clear hfz12_3
    try clear hfz13_0
    try clear hfz13_1
    try clear hfz13_2
    try clear hfz13_3
    try clear hfz22_0
    try clear hfz22_1
    try clear hfz22_2
    try clear hfz22_3
    try clear hfz24_0
    try clear hfz24_1
    try clear hfz24_2
    try clear hfz24_3
    try clear hfz27_0
    try clear hfz27_1
    try clear hfz27_2
    try clear hfz27_3
    obtain ⟨kq, x23_6, rfl, HA, HJ6, BK233, BK234, HB⟩ := hcut
    cases kq with
    | zero => exact absurd HA.out (by simp [caulkerlaw10_KindPairs.j0])
    | succ kj6 =>
     have H := HA.out
     clear HA
     simp only [caulkerlaw10_KindPairs.j0] at H
     by_cases c29 : x23_6 = true
     ·subst c29
      have H1 : ((kind_Alike.f kj6 a0_0 a0_1 a0_2 a0_3 a1_0 a1_1 a1_2 a1_3).bind fun t242 => (if t242 = true then (none) else ((kind_Inside.f kj6 a0_0 a0_1 a0_2 a0_3 a1_0 a1_1 a1_2 a1_3).bind fun t243 => (if t243 = true then (none) else ((kind_Less.f kj6 a0_0 a0_1 a0_2 a0_3 a1_0 a1_1 a1_2 a1_3).bind fun t244 => (some (!t244))))))) = some r := by rw [if_pos rfl] at H; exact H
      clear H
      have H := H1
      clear H1
      replace H := Option.bind_eq_some_iff.mp H
      obtain ⟨t242, A300, H⟩ := H
      replace H : (if t242 = true then (none) else ((kind_Inside.f kj6 a0_0 a0_1 a0_2 a0_3 a1_0 a1_1 a1_2 a1_3).bind fun t243 => (if t243 = true then (none) else ((kind_Less.f kj6 a0_0 a0_1 a0_2 a0_3 a1_0 a1_1 a1_2 a1_3).bind fun t244 => (some (!t244)))))) = some r := H
      have A30 := Aside0.mk A300
      clear A300
      by_cases c31 : t242 = true
      ·subst c31
       have H1 : (none) = some r := by rw [if_pos rfl] at H; exact H
       clear H
       have H := H1
       clear H1
       exact absurd H (by simp)
      ·replace c31 := Bool.eq_false_iff.mpr c31
       subst c31
       have H1 : ((kind_Inside.f kj6 a0_0 a0_1 a0_2 a0_3 a1_0 a1_1 a1_2 a1_3).bind fun t243 => (if t243 = true then (none) else ((kind_Less.f kj6 a0_0 a0_1 a0_2 a0_3 a1_0 a1_1 a1_2 a1_3).bind fun t244 => (some (!t244))))) = some r := by rw [if_neg (show ¬ (false = true) by decide)] at H; exact H
       clear H
       have H := H1
       clear H1
       replace H := Option.bind_eq_some_iff.mp H
       obtain ⟨t243, A320, H⟩ := H
       replace H : (if t243 = true then (none) else ((kind_Less.f kj6 a0_0 a0_1 a0_2 a0_3 a1_0 a1_1 a1_2 a1_3).bind fun t244 => (some (!t244)))) = some r := H
       have A32 := Aside0.mk A320
       clear A320
       by_cases c33 : t243 = true
       ·subst c33
        have H1 : (none) = some r := by rw [if_pos rfl] at H; exact H
        clear H
        have H := H1
        clear H1
        exact absurd H (by simp)
       ·replace c33 := Bool.eq_false_iff.mpr c33
        subst c33
        have H1 : ((kind_Less.f kj6 a0_0 a0_1 a0_2 a0_3 a1_0 a1_1 a1_2 a1_3).bind fun t244 => (some (!t244))) = some r := by rw [if_neg (show ¬ (false = true) by decide)] at H; exact H
        clear H
        have H := H1
        clear H1
        replace H := Option.bind_eq_some_iff.mp H
        obtain ⟨t244, A340, H⟩ := H
        replace H : (some (!t244)) = some r := H
        have A34 := Aside0.mk A340
        clear A340
        obtain rfl := Option.some.inj H
        have hnb35 := NB233_234.out
        have hnc35 := NB234_233.out
        have hcz36_0 : wc.cell? ⟨gb233, 0, none⟩ = some (.int .i64 a0_0) := (blk_cell BK233.out 0).trans rfl
        have hcz36_1 : wc.cell? ⟨gb233, 1, none⟩ = some (.string a0_1) := (blk_cell BK233.out 1).trans rfl
        have hcz36_2 : wc.cell? ⟨gb233, 2, none⟩ = some (.int .i64 a0_2) := (blk_cell BK233.out 2).trans rfl
        have hcz36_3 : wc.cell? ⟨gb233, 3, none⟩ = some (.string a0_3) := (blk_cell BK233.out 3).trans rfl
        have hfz36_0 := blk_frozen BK233.out 0
        have hfz36_1 := blk_frozen BK233.out 1
        have hfz36_2 := blk_frozen BK233.out 2
        have hfz36_3 := blk_frozen BK233.out 3
        have hcz37_0 : wc.cell? ⟨gb234, 0, none⟩ = some (.int .i64 a1_0) := (blk_cell BK234.out 0).trans rfl
        have hcz37_1 : wc.cell? ⟨gb234, 1, none⟩ = some (.string a1_1) := (blk_cell BK234.out 1).trans rfl
        have hcz37_2 : wc.cell? ⟨gb234, 2, none⟩ = some (.int .i64 a1_2) := (blk_cell BK234.out 2).trans rfl
        have hcz37_3 : wc.cell? ⟨gb234, 3, none⟩ = some (.string a1_3) := (blk_cell BK234.out 3).trans rfl
        have hfz37_0 := blk_frozen BK234.out 0
        have hfz37_1 := blk_frozen BK234.out 1
        have hfz37_2 := blk_frozen BK234.out 2
        have hfz37_3 := blk_frozen BK234.out 3
        go_wp2_with (first | (go_at_call 12; (with_reducible refine (kind_Alike.calls kj6 a0_0 a0_1 a0_2 a0_3 a1_0 a1_1 a1_2 a1_3 false _ A30.out).mono ?_); rintro e w38 ⟨rfl, hb⟩; have n0_ := pxk BK233 hb; have n1_ := pxk BK234 hb; have n2_ := pxs HB hb; clear BK233; clear BK234; clear HB; have BK233 := n0_; have BK234 := n1_; have HB := n2_; clear n0_ n1_ n2_; (try clear hb); (try clear hb2); (try clear hk); (try clear hi); have hcz39_0 : w38.cell? ⟨gb233, 0, none⟩ = some (.int .i64 a0_0) := (blk_cell BK233.out 0).trans rfl; have hcz39_1 : w38.cell? ⟨gb233, 1, none⟩ = some (.string a0_1) := (blk_cell BK233.out 1).trans rfl; have hcz39_2 : w38.cell? ⟨gb233, 2, none⟩ = some (.int .i64 a0_2) := (blk_cell BK233.out 2).trans rfl; have hcz39_3 : w38.cell? ⟨gb233, 3, none⟩ = some (.string a0_3) := (blk_cell BK233.out 3).trans rfl; have hfz39_0 := blk_frozen BK233.out 0; have hfz39_1 := blk_frozen BK233.out 1; have hfz39_2 := blk_frozen BK233.out 2; have hfz39_3 := blk_frozen BK233.out 3; have hcz40_0 : w38.cell? ⟨gb234, 0, none⟩ = some (.int .i64 a1_0) := (blk_cell BK234.out 0).trans rfl; have hcz40_1 : w38.cell? ⟨gb234, 1, none⟩ = some (.string a1_1) := (blk_cell BK234.out 1).trans rfl; have hcz40_2 : w38.cell? ⟨gb234, 2, none⟩ = some (.int .i64 a1_2) := (blk_cell BK234.out 2).trans rfl; have hcz40_3 : w38.cell? ⟨gb234, 3, none⟩ = some (.string a1_3) := (blk_cell BK234.out 3).trans rfl; have hfz40_0 := blk_frozen BK234.out 0; have hfz40_1 := blk_frozen BK234.out 1; have hfz40_2 := blk_frozen BK234.out 2; have hfz40_3 := blk_frozen BK234.out 3) | (go_at_call 13; (with_reducible refine (kind_Inside.calls kj6 a0_0 a0_1 a0_2 a0_3 a1_0 a1_1 a1_2 a1_3 false _ A32.out).mono ?_); rintro e w41 ⟨rfl, hb⟩; have n0_ := pxk BK233 hb; have n1_ := pxk BK234 hb; have n2_ := pxs HB hb; clear BK233; clear BK234; clear HB; have BK233 := n0_; have BK234 := n1_; have HB := n2_; clear n0_ n1_ n2_; (try clear hb); (try clear hb2); (try clear hk); (try clear hi); have hcz42_0 : w41.cell? ⟨gb233, 0, none⟩ = some (.int .i64 a0_0) := (blk_cell BK233.out 0).trans rfl; have hcz42_1 : w41.cell? ⟨gb233, 1, none⟩ = some (.string a0_1) := (blk_cell BK233.out 1).trans rfl; have hcz42_2 : w41.cell? ⟨gb233, 2, none⟩ = some (.int .i64 a0_2) := (blk_cell BK233.out 2).trans rfl; have hcz42_3 : w41.cell? ⟨gb233, 3, none⟩ = some (.string a0_3) := (blk_cell BK233.out 3).trans rfl; have hfz42_0 := blk_frozen BK233.out 0; have hfz42_1 := blk_frozen BK233.out 1; have hfz42_2 := blk_frozen BK233.out 2; have hfz42_3 := blk_frozen BK233.out 3; have hcz43_0 : w41.cell? ⟨gb234, 0, none⟩ = some (.int .i64 a1_0) := (blk_cell BK234.out 0).trans rfl; have hcz43_1 : w41.cell? ⟨gb234, 1, none⟩ = some (.string a1_1) := (blk_cell BK234.out 1).trans rfl; have hcz43_2 : w41.cell? ⟨gb234, 2, none⟩ = some (.int .i64 a1_2) := (blk_cell BK234.out 2).trans rfl; have hcz43_3 : w41.cell? ⟨gb234, 3, none⟩ = some (.string a1_3) := (blk_cell BK234.out 3).trans rfl; have hfz43_0 := blk_frozen BK234.out 0; have hfz43_1 := blk_frozen BK234.out 1; have hfz43_2 := blk_frozen BK234.out 2; have hfz43_3 := blk_frozen BK234.out 3) | (go_at_call 14; (with_reducible refine (kind_Less.calls kj6 a0_0 a0_1 a0_2 a0_3 a1_0 a1_1 a1_2 a1_3 t244 _ A34.out).mono ?_); rintro e w44 ⟨rfl, hb⟩; have n0_ := pxk BK233 hb; have n1_ := pxk BK234 hb; have n2_ := pxs HB hb; clear BK233; clear BK234; clear HB; have BK233 := n0_; have BK234 := n1_; have HB := n2_; clear n0_ n1_ n2_; (try clear hb); (try clear hb2); (try clear hk); (try clear hi)))
        repeat (go_quiet (first | (go_at_call 12; (with_reducible refine (kind_Alike.calls kj6 a0_0 a0_1 a0_2 a0_3 a1_0 a1_1 a1_2 a1_3 false _ A30.out).mono ?_); rintro e w38 ⟨rfl, hb⟩; have n0_ := pxk BK233 hb; have n1_ := pxk BK234 hb; have n2_ := pxs HB hb; clear BK233; clear BK234; clear HB; have BK233 := n0_; have BK234 := n1_; have HB := n2_; clear n0_ n1_ n2_; (try clear hb); (try clear hb2); (try clear hk); (try clear hi); have hcz39_0 : w38.cell? ⟨gb233, 0, none⟩ = some (.int .i64 a0_0) := (blk_cell BK233.out 0).trans rfl; have hcz39_1 : w38.cell? ⟨gb233, 1, none⟩ = some (.string a0_1) := (blk_cell BK233.out 1).trans rfl; have hcz39_2 : w38.cell? ⟨gb233, 2, none⟩ = some (.int .i64 a0_2) := (blk_cell BK233.out 2).trans rfl; have hcz39_3 : w38.cell? ⟨gb233, 3, none⟩ = some (.string a0_3) := (blk_cell BK233.out 3).trans rfl; have hfz39_0 := blk_frozen BK233.out 0; have hfz39_1 := blk_frozen BK233.out 1; have hfz39_2 := blk_frozen BK233.out 2; have hfz39_3 := blk_frozen BK233.out 3; have hcz40_0 : w38.cell? ⟨gb234, 0, none⟩ = some (.int .i64 a1_0) := (blk_cell BK234.out 0).trans rfl; have hcz40_1 : w38.cell? ⟨gb234, 1, none⟩ = some (.string a1_1) := (blk_cell BK234.out 1).trans rfl; have hcz40_2 : w38.cell? ⟨gb234, 2, none⟩ = some (.int .i64 a1_2) := (blk_cell BK234.out 2).trans rfl; have hcz40_3 : w38.cell? ⟨gb234, 3, none⟩ = some (.string a1_3) := (blk_cell BK234.out 3).trans rfl; have hfz40_0 := blk_frozen BK234.out 0; have hfz40_1 := blk_frozen BK234.out 1; have hfz40_2 := blk_frozen BK234.out 2; have hfz40_3 := blk_frozen BK234.out 3) | (go_at_call 13; (with_reducible refine (kind_Inside.calls kj6 a0_0 a0_1 a0_2 a0_3 a1_0 a1_1 a1_2 a1_3 false _ A32.out).mono ?_); rintro e w41 ⟨rfl, hb⟩; have n0_ := pxk BK233 hb; have n1_ := pxk BK234 hb; have n2_ := pxs HB hb; clear BK233; clear BK234; clear HB; have BK233 := n0_; have BK234 := n1_; have HB := n2_; clear n0_ n1_ n2_; (try clear hb); (try clear hb2); (try clear hk); (try clear hi); have hcz42_0 : w41.cell? ⟨gb233, 0, none⟩ = some (.int .i64 a0_0) := (blk_cell BK233.out 0).trans rfl; have hcz42_1 : w41.cell? ⟨gb233, 1, none⟩ = some (.string a0_1) := (blk_cell BK233.out 1).trans rfl; have hcz42_2 : w41.cell? ⟨gb233, 2, none⟩ = some (.int .i64 a0_2) := (blk_cell BK233.out 2).trans rfl; have hcz42_3 : w41.cell? ⟨gb233, 3, none⟩ = some (.string a0_3) := (blk_cell BK233.out 3).trans rfl; have hfz42_0 := blk_frozen BK233.out 0; have hfz42_1 := blk_frozen BK233.out 1; have hfz42_2 := blk_frozen BK233.out 2; have hfz42_3 := blk_frozen BK233.out 3; have hcz43_0 : w41.cell? ⟨gb234, 0, none⟩ = some (.int .i64 a1_0) := (blk_cell BK234.out 0).trans rfl; have hcz43_1 : w41.cell? ⟨gb234, 1, none⟩ = some (.string a1_1) := (blk_cell BK234.out 1).trans rfl; have hcz43_2 : w41.cell? ⟨gb234, 2, none⟩ = some (.int .i64 a1_2) := (blk_cell BK234.out 2).trans rfl; have hcz43_3 : w41.cell? ⟨gb234, 3, none⟩ = some (.string a1_3) := (blk_cell BK234.out 3).trans rfl; have hfz43_0 := blk_frozen BK234.out 0; have hfz43_1 := blk_frozen BK234.out 1; have hfz43_2 := blk_frozen BK234.out 2; have hfz43_3 := blk_frozen BK234.out 3) | (go_at_call 14; (with_reducible refine (kind_Less.calls kj6 a0_0 a0_1 a0_2 a0_3 a1_0 a1_1 a1_2 a1_3 t244 _ A34.out).mono ?_); rintro e w44 ⟨rfl, hb⟩; have n0_ := pxk BK233 hb; have n1_ := pxk BK234 hb; have n2_ := pxs HB hb; clear BK233; clear BK234; clear HB; have BK233 := n0_; have BK234 := n1_; have HB := n2_; clear n0_ n1_ n2_; (try clear hb); (try clear hb2); (try clear hk); (try clear hi))); try go_wp2_with (first | (go_at_call 12; (with_reducible refine (kind_Alike.calls kj6 a0_0 a0_1 a0_2 a0_3 a1_0 a1_1 a1_2 a1_3 false _ A30.out).mono ?_); rintro e w38 ⟨rfl, hb⟩; have n0_ := pxk BK233 hb; have n1_ := pxk BK234 hb; have n2_ := pxs HB hb; clear BK233; clear BK234; clear HB; have BK233 := n0_; have BK234 := n1_; have HB := n2_; clear n0_ n1_ n2_; (try clear hb); (try clear hb2); (try clear hk); (try clear hi); have hcz39_0 : w38.cell? ⟨gb233, 0, none⟩ = some (.int .i64 a0_0) := (blk_cell BK233.out 0).trans rfl; have hcz39_1 : w38.cell? ⟨gb233, 1, none⟩ = some (.string a0_1) := (blk_cell BK233.out 1).trans rfl; have hcz39_2 : w38.cell? ⟨gb233, 2, none⟩ = some (.int .i64 a0_2) := (blk_cell BK233.out 2).trans rfl; have hcz39_3 : w38.cell? ⟨gb233, 3, none⟩ = some (.string a0_3) := (blk_cell BK233.out 3).trans rfl; have hfz39_0 := blk_frozen BK233.out 0; have hfz39_1 := blk_frozen BK233.out 1; have hfz39_2 := blk_frozen BK233.out 2; have hfz39_3 := blk_frozen BK233.out 3; have hcz40_0 : w38.cell? ⟨gb234, 0, none⟩ = some (.int .i64 a1_0) := (blk_cell BK234.out 0).trans rfl; have hcz40_1 : w38.cell? ⟨gb234, 1, none⟩ = some (.string a1_1) := (blk_cell BK234.out 1).trans rfl; have hcz40_2 : w38.cell? ⟨gb234, 2, none⟩ = some (.int .i64 a1_2) := (blk_cell BK234.out 2).trans rfl; have hcz40_3 : w38.cell? ⟨gb234, 3, none⟩ = some (.string a1_3) := (blk_cell BK234.out 3).trans rfl; have hfz40_0 := blk_frozen BK234.out 0; have hfz40_1 := blk_frozen BK234.out 1; have hfz40_2 := blk_frozen BK234.out 2; have hfz40_3 := blk_frozen BK234.out 3) | (go_at_call 13; (with_reducible refine (kind_Inside.calls kj6 a0_0 a0_1 a0_2 a0_3 a1_0 a1_1 a1_2 a1_3 false _ A32.out).mono ?_); rintro e w41 ⟨rfl, hb⟩; have n0_ := pxk BK233 hb; have n1_ := pxk BK234 hb; have n2_ := pxs HB hb; clear BK233; clear BK234; clear HB; have BK233 := n0_; have BK234 := n1_; have HB := n2_; clear n0_ n1_ n2_; (try clear hb); (try clear hb2); (try clear hk); (try clear hi); have hcz42_0 : w41.cell? ⟨gb233, 0, none⟩ = some (.int .i64 a0_0) := (blk_cell BK233.out 0).trans rfl; have hcz42_1 : w41.cell? ⟨gb233, 1, none⟩ = some (.string a0_1) := (blk_cell BK233.out 1).trans rfl; have hcz42_2 : w41.cell? ⟨gb233, 2, none⟩ = some (.int .i64 a0_2) := (blk_cell BK233.out 2).trans rfl; have hcz42_3 : w41.cell? ⟨gb233, 3, none⟩ = some (.string a0_3) := (blk_cell BK233.out 3).trans rfl; have hfz42_0 := blk_frozen BK233.out 0; have hfz42_1 := blk_frozen BK233.out 1; have hfz42_2 := blk_frozen BK233.out 2; have hfz42_3 := blk_frozen BK233.out 3; have hcz43_0 : w41.cell? ⟨gb234, 0, none⟩ = some (.int .i64 a1_0) := (blk_cell BK234.out 0).trans rfl; have hcz43_1 : w41.cell? ⟨gb234, 1, none⟩ = some (.string a1_1) := (blk_cell BK234.out 1).trans rfl; have hcz43_2 : w41.cell? ⟨gb234, 2, none⟩ = some (.int .i64 a1_2) := (blk_cell BK234.out 2).trans rfl; have hcz43_3 : w41.cell? ⟨gb234, 3, none⟩ = some (.string a1_3) := (blk_cell BK234.out 3).trans rfl; have hfz43_0 := blk_frozen BK234.out 0; have hfz43_1 := blk_frozen BK234.out 1; have hfz43_2 := blk_frozen BK234.out 2; have hfz43_3 := blk_frozen BK234.out 3) | (go_at_call 14; (with_reducible refine (kind_Less.calls kj6 a0_0 a0_1 a0_2 a0_3 a1_0 a1_1 a1_2 a1_3 t244 _ A34.out).mono ?_); rintro e w44 ⟨rfl, hb⟩; have n0_ := pxk BK233 hb; have n1_ := pxk BK234 hb; have n2_ := pxs HB hb; clear BK233; clear BK234; clear HB; have BK233 := n0_; have BK234 := n1_; have HB := n2_; clear n0_ n1_ n2_; (try clear hb); (try clear hb2); (try clear hk); (try clear hi))))
        go_ret
        exact ⟨by first | rfl | (simp [errW_none, errW_some] <;> rfl) | (simp [*, errW_none, errW_some] <;> rfl), pxb HB⟩
     ·replace c29 := Bool.eq_false_iff.mpr c29
      subst c29
      have H1 : (if a0_0 = a1_0 then (if a0_1.toList = a1_1.toList then (caulkerlaw10_KindPairs.j1 kj6 (a0_2 == a1_2) a0_0 a0_1 a0_2 a0_3 a1_0 a1_1 a1_2 a1_3) else (caulkerlaw10_KindPairs.j1 kj6 false a0_0 a0_1 a0_2 a0_3 a1_0 a1_1 a1_2 a1_3)) else (caulkerlaw10_KindPairs.j1 kj6 false a0_0 a0_1 a0_2 a0_3 a1_0 a1_1 a1_2 a1_3)) = some r := by rw [if_neg (show ¬ (false = true) by decide)] at H; exact H
      clear H
      have H := H1
      clear H1
      have HC45 := Aside0.mk H
      clear H
      go_upto_region 7 with (fail)
      repeat (go_quiet (fail); go_upto_region 7 with (fail))
      go_cut [5] (fun v5 wc => ∃ (kq : Nat) (x5_44 : Bool), v5 = .bool x5_44 ∧ Aside0 (caulkerlaw10_KindPairs.j1 kq x5_44 a0_0 a0_1 a0_2 a0_3 a1_0 a1_1 a1_2 a1_3 = some r) ∧ Aside0 (kq ≤ kj6) ∧ Aside0 (wc.heap[gb233]? = some (.cells #[.int .i64 a0_0, .string a0_1, .int .i64 a0_2, .string a0_3] 23 (0, 0))) ∧ Aside0 (wc.heap[gb234]? = some (.cells #[.int .i64 a1_0, .string a1_1, .int .i64 a1_2, .string a1_3] 23 (0, 0))) ∧ Aside0 (Below w.heap.size w wc))
      case first =>
       have H := HC45.out
       clear HC45
       by_cases c46 : a0_0 = a1_0
       ·rw [if_pos c46] at H
        have c46b0 : (a0_0 == a1_0) = true := beq_iff_eq.mpr c46
        have c46b1 : (a0_0 != a1_0) = false := bne_eq_false_iff_eq.mpr c46
        clear c46
        (first | rw [c46b0] | (simp only [i64_w, i32_w]; rw [c46b0]) | skip)
        by_cases c47 : a0_1.toList = a1_1.toList
        ·rw [if_pos c47] at H
         have c47b0 : (a0_1.toList == a1_1.toList) = true := beq_iff_eq.mpr c47
         have c47b1 : (a0_1.toList != a1_1.toList) = false := bne_eq_false_iff_eq.mpr c47
         clear c47
         have H' := Aside0.mk H
         clear H
         have hnb48 := NB233_234.out
         have hnc48 := NB234_233.out
         have hcz49_0 : wc.cell? ⟨gb233, 0, none⟩ = some (.int .i64 a0_0) := (blk_cell BK233.out 0).trans rfl
         have hcz49_1 : wc.cell? ⟨gb233, 1, none⟩ = some (.string a0_1) := (blk_cell BK233.out 1).trans rfl
         have hcz49_2 : wc.cell? ⟨gb233, 2, none⟩ = some (.int .i64 a0_2) := (blk_cell BK233.out 2).trans rfl
         have hcz49_3 : wc.cell? ⟨gb233, 3, none⟩ = some (.string a0_3) := (blk_cell BK233.out 3).trans rfl
         have hfz49_0 := blk_frozen BK233.out 0
         have hfz49_1 := blk_frozen BK233.out 1
         have hfz49_2 := blk_frozen BK233.out 2
         have hfz49_3 := blk_frozen BK233.out 3
         have hcz50_0 : wc.cell? ⟨gb234, 0, none⟩ = some (.int .i64 a1_0) := (blk_cell BK234.out 0).trans rfl
         have hcz50_1 : wc.cell? ⟨gb234, 1, none⟩ = some (.string a1_1) := (blk_cell BK234.out 1).trans rfl
         have hcz50_2 : wc.cell? ⟨gb234, 2, none⟩ = some (.int .i64 a1_2) := (blk_cell BK234.out 2).trans rfl
         have hcz50_3 : wc.cell? ⟨gb234, 3, none⟩ = some (.string a1_3) := (blk_cell BK234.out 3).trans rfl
         have hfz50_0 := blk_frozen BK234.out 0
         have hfz50_1 := blk_frozen BK234.out 1
         have hfz50_2 := blk_frozen BK234.out 2
         have hfz50_3 := blk_frozen BK234.out 3
         go_wp2
         repeat (go_quiet (fail); try go_wp2)
         go_meet
         case rel => exact ⟨_, ((a0_2 == a1_2)), (by first | rfl | (simp; done) | (simp [*]; done)), H', ⟨by have := HJ6.out; first | omega | exact Nat.le_refl _⟩, ⟨pxq BK233⟩, ⟨pxq BK234⟩, ⟨pxb HB⟩⟩
        ·rw [if_neg c47] at H
         have c47b0 : (a0_1.toList == a1_1.toList) = false := beq_eq_false_iff_ne.mpr c47
         have c47b1 : (a0_1.toList != a1_1.toList) = true := bne_iff_ne.mpr c47
         have H' := Aside0.mk H
         clear H
         have hnb51 := NB233_234.out
         have hnc51 := NB234_233.out
         have hcz52_0 : wc.cell? ⟨gb233, 0, none⟩ = some (.int .i64 a0_0) := (blk_cell BK233.out 0).trans rfl
         have hcz52_1 : wc.cell? ⟨gb233, 1, none⟩ = some (.string a0_1) := (blk_cell BK233.out 1).trans rfl
         have hcz52_2 : wc.cell? ⟨gb233, 2, none⟩ = some (.int .i64 a0_2) := (blk_cell BK233.out 2).trans rfl
         have hcz52_3 : wc.cell? ⟨gb233, 3, none⟩ = some (.string a0_3) := (blk_cell BK233.out 3).trans rfl
         have hfz52_0 := blk_frozen BK233.out 0
         have hfz52_1 := blk_frozen BK233.out 1
         have hfz52_2 := blk_frozen BK233.out 2
         have hfz52_3 := blk_frozen BK233.out 3
         have hcz53_0 : wc.cell? ⟨gb234, 0, none⟩ = some (.int .i64 a1_0) := (blk_cell BK234.out 0).trans rfl
         have hcz53_1 : wc.cell? ⟨gb234, 1, none⟩ = some (.string a1_1) := (blk_cell BK234.out 1).trans rfl
         have hcz53_2 : wc.cell? ⟨gb234, 2, none⟩ = some (.int .i64 a1_2) := (blk_cell BK234.out 2).trans rfl
         have hcz53_3 : wc.cell? ⟨gb234, 3, none⟩ = some (.string a1_3) := (blk_cell BK234.out 3).trans rfl
         have hfz53_0 := blk_frozen BK234.out 0
         have hfz53_1 := blk_frozen BK234.out 1
         have hfz53_2 := blk_frozen BK234.out 2
         have hfz53_3 := blk_frozen BK234.out 3
         go_wp2
         repeat (go_quiet (fail); try go_wp2)
         go_meet
         case rel => exact ⟨_, (false), (by first | rfl | (simp; done) | (simp [*]; done)), H', ⟨by have := HJ6.out; first | omega | exact Nat.le_refl _⟩, ⟨pxq BK233⟩, ⟨pxq BK234⟩, ⟨pxb HB⟩⟩
       ·rw [if_neg c46] at H
        have c46b0 : (a0_0 == a1_0) = false := beq_eq_false_iff_ne.mpr c46
        have c46b1 : (a0_0 != a1_0) = true := bne_iff_ne.mpr c46
        (first | rw [c46b0] | (simp only [i64_w, i32_w]; rw [c46b0]) | skip)
        have H' := Aside0.mk H
        clear H
        have hnb54 := NB233_234.out
        have hnc54 := NB234_233.out
        have hcz55_0 : wc.cell? ⟨gb233, 0, none⟩ = some (.int .i64 a0_0) := (blk_cell BK233.out 0).trans rfl
        have hcz55_1 : wc.cell? ⟨gb233, 1, none⟩ = some (.string a0_1) := (blk_cell BK233.out 1).trans rfl
        have hcz55_2 : wc.cell? ⟨gb233, 2, none⟩ = some (.int .i64 a0_2) := (blk_cell BK233.out 2).trans rfl
        have hcz55_3 : wc.cell? ⟨gb233, 3, none⟩ = some (.string a0_3) := (blk_cell BK233.out 3).trans rfl
        have hfz55_0 := blk_frozen BK233.out 0
        have hfz55_1 := blk_frozen BK233.out 1
        have hfz55_2 := blk_frozen BK233.out 2
        have hfz55_3 := blk_frozen BK233.out 3
        have hcz56_0 : wc.cell? ⟨gb234, 0, none⟩ = some (.int .i64 a1_0) := (blk_cell BK234.out 0).trans rfl
        have hcz56_1 : wc.cell? ⟨gb234, 1, none⟩ = some (.string a1_1) := (blk_cell BK234.out 1).trans rfl
        have hcz56_2 : wc.cell? ⟨gb234, 2, none⟩ = some (.int .i64 a1_2) := (blk_cell BK234.out 2).trans rfl
        have hcz56_3 : wc.cell? ⟨gb234, 3, none⟩ = some (.string a1_3) := (blk_cell BK234.out 3).trans rfl
        have hfz56_0 := blk_frozen BK234.out 0
        have hfz56_1 := blk_frozen BK234.out 1
        have hfz56_2 := blk_frozen BK234.out 2
        have hfz56_3 := blk_frozen BK234.out 3
        go_wp2
        repeat (go_quiet (fail); try go_wp2)
        go_meet
        case rel => exact ⟨_, (false), (by first | rfl | (simp; done) | (simp [*]; done)), H', ⟨by have := HJ6.out; first | omega | exact Nat.le_refl _⟩, ⟨pxq BK233⟩, ⟨pxq BK234⟩, ⟨pxb HB⟩⟩
      case rest => as_aux_lemma =>
       clear HC45
       try clear c1
       try clear c2
       try clear p2
       try clear c3
       try clear c4
       try clear c5
       try clear c6
       try clear c11
       try clear c19
       try clear c21
       try clear c26
       try clear c29
       try clear c31
       try clear c33
       try clear c35
       try clear c46
       try clear c46b0
       try clear c46b1
       try clear c47
       try clear c47b0
       try clear c47b1
       try clear c48
       try clear c51
       try clear c54
       try clear hcz12_0
       try clear hcz12_1
       try clear hcz12_2
       try clear hcz12_3
       try clear hcz13_0
       try clear hcz13_1
       try clear hcz13_2
       try clear hcz13_3
       try clear hcz22_0
       try clear hcz22_1
       try clear hcz22_2
       try clear hcz22_3
       try clear hcz24_0
       try clear hcz24_1
       try clear hcz24_2
       try clear hcz24_3
       try clear hcz27_0
       try clear hcz27_1
       try clear hcz27_2
       try clear hcz27_3
       try clear hcz36_0
       try clear hcz36_1
       try clear hcz36_2
       try clear hcz36_3
       try clear hcz37_0
       try clear hcz37_1
       try clear hcz37_2
       try clear hcz37_3
       try clear hcz39_0
       try clear hcz39_1
       try clear hcz39_2
       try clear hcz39_3
       try clear hcz40_0
       try clear hcz40_1
       try clear hcz40_2
       try clear hcz40_3
       try clear hcz42_0
       try clear hcz42_1
       try clear hcz42_2
       try clear hcz42_3
       try clear hcz43_0
       try clear hcz43_1
       try clear hcz43_2
       try clear hcz43_3
       try clear hcz49_0
       try clear hcz49_1
       try clear hcz49_2
       try clear hcz49_3
       try clear hcz50_0
       try clear hcz50_1
       try clear hcz50_2
       try clear hcz50_3
       try clear hcz52_0
       try clear hcz52_1
       try clear hcz52_2
       try clear hcz52_3
       try clear hcz53_0
       try clear hcz53_1
       try clear hcz53_2
       try clear hcz53_3
       try clear hcz55_0
       try clear hcz55_1
       try clear hcz55_2
       try clear hcz55_3
       try clear hcz56_0
       try clear hcz56_1
       try clear hcz56_2
       try clear hcz56_3
       try clear hfz12_0
       try clear hfz12_1
       try clear hfz12_2
       try clear hfz12_3
       try clear hfz13_0
       try clear hfz13_1
       try clear hfz13_2
       try clear hfz13_3
       try clear hfz22_0
       try clear hfz22_1
       try clear hfz22_2
       try clear hfz22_3
       try clear hfz24_0
       try clear hfz24_1
       try clear hfz24_2
       try clear hfz24_3
       try clear hfz27_0
       try clear hfz27_1
       try clear hfz27_2
       try clear hfz27_3
       try clear hfz36_0
       try clear hfz36_1
       try clear hfz36_2
       try clear hfz36_3
       try clear hfz37_0
       try clear hfz37_1
       try clear hfz37_2
       try clear hfz37_3
       try clear hfz39_0
       try clear hfz39_1
       try clear hfz39_2
       try clear hfz39_3
       try clear hfz40_0
       try clear hfz40_1
       try clear hfz40_2
       try clear hfz40_3
       try clear hfz42_0
       try clear hfz42_1
       try clear hfz42_2
       try clear hfz42_3
       try clear hfz43_0
       try clear hfz43_1
       try clear hfz43_2
       try clear hfz43_3
       try clear hfz49_0
       try clear hfz49_1
       try clear hfz49_2
       try clear hfz49_3
       try clear hfz50_0
       try clear hfz50_1
       try clear hfz50_2
       try clear hfz50_3
       try clear hfz52_0
       try clear hfz52_1
       try clear hfz52_2
       try clear hfz52_3
       try clear hfz53_0
       try clear hfz53_1
       try clear hfz53_2
       try clear hfz53_3
       try clear hfz55_0
       try clear hfz55_1
       try clear hfz55_2
       try clear hfz55_3
       try clear hfz56_0
       try clear hfz56_1
       try clear hfz56_2
       try clear hfz56_3
       try clear p2
       obtain ⟨kq, x5_44, rfl, HA, HJ44, BK233, BK234, HB⟩ := hcut
       cases kq with
       | zero => exact absurd HA.out (by simp [caulkerlaw10_KindPairs.j1])
       | succ kj44 =>
        have H := HA.out
        clear HA
        simp only [caulkerlaw10_KindPairs.j1] at H
        have H' := Aside0.mk H
        clear H
        have hnb57 := NB233_234.out
        have hnc57 := NB234_233.out
        have hcz58_0 : wc.cell? ⟨gb233, 0, none⟩ = some (.int .i64 a0_0) := (blk_cell BK233.out 0).trans rfl
        have hcz58_1 : wc.cell? ⟨gb233, 1, none⟩ = some (.string a0_1) := (blk_cell BK233.out 1).trans rfl
        have hcz58_2 : wc.cell? ⟨gb233, 2, none⟩ = some (.int .i64 a0_2) := (blk_cell BK233.out 2).trans rfl
        have hcz58_3 : wc.cell? ⟨gb233, 3, none⟩ = some (.string a0_3) := (blk_cell BK233.out 3).trans rfl
        have hfz58_0 := blk_frozen BK233.out 0
        have hfz58_1 := blk_frozen BK233.out 1
        have hfz58_2 := blk_frozen BK233.out 2
        have hfz58_3 := blk_frozen BK233.out 3
        go_wp2
        repeat (go_quiet (fail); try go_wp2)
        go_loopg [6, 7, 64] kj44 (fun kq v6 v7 v64 w' => ∃ (x6_3 : Bool) (x7_3 : Bool) (x64_3 : Int), v6 = .bool x6_3 ∧ v7 = .bool x7_3 ∧ v64 = .int .i64 x64_3 ∧ Aside0 (caulkerlaw10_KindPairs.l0 kq x5_44 x6_3 x7_3 (a0_3.size : Int) x64_3 a0_0 a0_1 a0_2 a0_3 a1_0 a1_1 a1_2 a1_3 = some r) ∧ Aside0 (kq ≤ kj44) ∧ Aside0 (w'.heap[gb233]? = some (.cells #[.int .i64 a0_0, .string a0_1, .int .i64 a0_2, .string a0_3] 23 (0, 0))) ∧ Aside0 (w'.heap[gb234]? = some (.cells #[.int .i64 a1_0, .string a1_1, .int .i64 a1_2, .string a1_3] 23 (0, 0))) ∧ Aside0 (Below w.heap.size w w'))
        case atStart => exact ⟨(x5_44), (x5_44), (0), (by first | rfl | (simp; done) | (simp [*]; done)), (by first | rfl | (simp; done) | (simp [*]; done)), (by first | rfl | (simp; done) | (simp [*]; done)), H', ⟨Nat.le_refl _⟩, ⟨pxq BK233⟩, ⟨pxq BK234⟩, ⟨pxb HB⟩⟩
        case round =>
         clear H'
         try clear c1
         try clear c2
         try clear p2
         try clear c3
         try clear c4
         try clear c5
         try clear c6
         try clear c11
         try clear c19
         try clear c21
         try clear c26
         try clear c29
         try clear c31
         try clear c33
         try clear c35
         try clear c46
         try clear c46b0
         try clear c46b1
         try clear c47
         try clear c47b0
         try clear c47b1
         try clear c48
         try clear c51
         try clear c54
         try clear c57
         try clear hcz12_0
         try clear hcz12_1
         try clear hcz12_2
         try clear hcz12_3
         try clear hcz13_0
         try clear hcz13_1
         try clear hcz13_2
         try clear hcz13_3
         try clear hcz22_0
         try clear hcz22_1
         try clear hcz22_2
         try clear hcz22_3
         try clear hcz24_0
         try clear hcz24_1
         try clear hcz24_2
         try clear hcz24_3
         try clear hcz27_0
         try clear hcz27_1
         try clear hcz27_2
         try clear hcz27_3
         try clear hcz36_0
         try clear hcz36_1
         try clear hcz36_2
         try clear hcz36_3
         try clear hcz37_0
         try clear hcz37_1
         try clear hcz37_2
         try clear hcz37_3
         try clear hcz39_0
         try clear hcz39_1
         try clear hcz39_2
         try clear hcz39_3
         try clear hcz40_0
         try clear hcz40_1
         try clear hcz40_2
         try clear hcz40_3
         try clear hcz42_0
         try clear hcz42_1
         try clear hcz42_2
         try clear hcz42_3
         try clear hcz43_0
         try clear hcz43_1
         try clear hcz43_2
         try clear hcz43_3
         try clear hcz49_0
         try clear hcz49_1
         try clear hcz49_2
         try clear hcz49_3
         try clear hcz50_0
         try clear hcz50_1
         try clear hcz50_2
         try clear hcz50_3
         try clear hcz52_0
         try clear hcz52_1
         try clear hcz52_2
         try clear hcz52_3
         try clear hcz53_0
         try clear hcz53_1
         try clear hcz53_2
         try clear hcz53_3
         try clear hcz55_0
         try clear hcz55_1
         try clear hcz55_2
         try clear hcz55_3
         try clear hcz56_0
         try clear hcz56_1
         try clear hcz56_2
         try clear hcz56_3
         try clear hcz58_0
         try clear hcz58_1
         try clear hcz58_2
         try clear hcz58_3
         try clear hfz12_0
         try clear hfz12_1
         try clear hfz12_2
         try clear hfz12_3
         try clear hfz13_0
         try clear hfz13_1
         try clear hfz13_2
         try clear hfz13_3
         try clear hfz22_0
         try clear hfz22_1
         try clear hfz22_2
         try clear hfz22_3
         try clear hfz24_0
         try clear hfz24_1
         try clear hfz24_2
         try clear hfz24_3
         try clear hfz27_0
         try clear hfz27_1
         try clear hfz27_2
         try clear hfz27_3
         try clear hfz36_0
         try clear hfz36_1
         try clear hfz36_2
         try clear hfz36_3
         try clear hfz37_0
         try clear hfz37_1
         try clear hfz37_2
         try clear hfz37_3
         try clear hfz39_0
         try clear hfz39_1
         try clear hfz39_2
         try clear hfz39_3
         try clear hfz40_0
         try clear hfz40_1
         try clear hfz40_2
         try clear hfz40_3
         try clear hfz42_0
         try clear hfz42_1
         try clear hfz42_2
         try clear hfz42_3
         try clear hfz43_0
         try clear hfz43_1
         try clear hfz43_2
         try clear hfz43_3
         try clear hfz49_0
         try clear hfz49_1
         try clear hfz49_2
         try clear hfz49_3
         try clear hfz50_0
         try clear hfz50_1
         try clear hfz50_2
         try clear hfz50_3
         try clear hfz52_0
         try clear hfz52_1
         try clear hfz52_2
         try clear hfz52_3
         try clear hfz53_0
         try clear hfz53_1
         try clear hfz53_2
         try clear hfz53_3
         try clear hfz55_0
         try clear hfz55_1
         try clear hfz55_2
         try clear hfz55_3
         try clear hfz56_0
         try clear hfz56_1
         try clear hfz56_2
         try clear hfz56_3
         try clear hfz58_0
         try clear hfz58_1
         try clear hfz58_2
         try clear hfz58_3
         try clear p2
         obtain ⟨x6_3, x7_3, x64_3, rfl, rfl, rfl, HA, HK3, BK233, BK234, HB⟩ := hrel
         cases gk with
         | zero => exact absurd HA.out (by simp [caulkerlaw10_KindPairs.l0])
         | succ k3 =>
          have H := HA.out
          clear HA
          simp only [caulkerlaw10_KindPairs.l0] at H
          by_cases c59 : x64_3 < (a0_3.size : Int)
          ·rw [if_pos c59] at H
           have c59b0 : decide (x64_3 < (a0_3.size : Int)) = true := decide_eq_true c59
           clear c59
           by_cases c60 : x5_44 = true
           ·subst c60
            have H1 : (if 0 ≤ x64_3 then (if x64_3 < (a0_3.size : Int) then (if x64_3 < (a1_3.size : Int) then (if (bt a0_3 x64_3) = (bt a1_3 x64_3) then (caulkerlaw10_KindPairs.l0 k3 true x6_3 x7_3 (a0_3.size : Int) (wrap64 (x64_3 + 1)) a0_0 a0_1 a0_2 a0_3 a1_0 a1_1 a1_2 a1_3) else (if x6_3 = true then (if x7_3 = true then (caulkerlaw10_KindPairs.l0 k3 true (x64_3 == (wrap64 ((a0_3.size : Int) - 1))) ((bt a0_3 x64_3) == 32) (a0_3.size : Int) (wrap64 (x64_3 + 1)) a0_0 a0_1 a0_2 a0_3 a1_0 a1_1 a1_2 a1_3) else (caulkerlaw10_KindPairs.l0 k3 true (x64_3 == (wrap64 ((a0_3.size : Int) - 1))) false (a0_3.size : Int) (wrap64 (x64_3 + 1)) a0_0 a0_1 a0_2 a0_3 a1_0 a1_1 a1_2 a1_3)) else (if x7_3 = true then (caulkerlaw10_KindPairs.l0 k3 true false ((bt a0_3 x64_3) == 32) (a0_3.size : Int) (wrap64 (x64_3 + 1)) a0_0 a0_1 a0_2 a0_3 a1_0 a1_1 a1_2 a1_3) else (caulkerlaw10_KindPairs.l0 k3 true false false (a0_3.size : Int) (wrap64 (x64_3 + 1)) a0_0 a0_1 a0_2 a0_3 a1_0 a1_1 a1_2 a1_3)))) else (none)) else (none)) else (none)) = some r := by rw [if_pos rfl] at H; exact H
            clear H
            have H := H1
            clear H1
            by_cases c61 : 0 ≤ x64_3
            ·rw [if_pos c61] at H
             have c61b0 : decide (0 ≤ x64_3) = true := decide_eq_true c61
             clear c61
             by_cases c62 : x64_3 < (a0_3.size : Int)
             ·rw [if_pos c62] at H
              have c62b0 : decide (x64_3 < (a0_3.size : Int)) = true := decide_eq_true c62
              clear c62
              by_cases c64 : x64_3 < (a1_3.size : Int)
              ·rw [if_pos c64] at H
               have c64b0 : decide (x64_3 < (a1_3.size : Int)) = true := decide_eq_true c64
               clear c64
               by_cases c66 : (bt a0_3 x64_3) = (bt a1_3 x64_3)
               ·rw [if_pos c66] at H
                have c66b0 : ((bt a0_3 x64_3) == (bt a1_3 x64_3)) = true := beq_iff_eq.mpr c66
                have c66b1 : ((bt a0_3 x64_3) != (bt a1_3 x64_3)) = false := bne_eq_false_iff_eq.mpr c66
                clear c66
                have H' := Aside0.mk H
                clear H
                have hnb67 := NB233_234.out
                have hnc67 := NB234_233.out
                have hcz68_0 : wr.cell? ⟨gb233, 0, none⟩ = some (.int .i64 a0_0) := (blk_cell BK233.out 0).trans rfl
                have hcz68_1 : wr.cell? ⟨gb233, 1, none⟩ = some (.string a0_1) := (blk_cell BK233.out 1).trans rfl
                have hcz68_2 : wr.cell? ⟨gb233, 2, none⟩ = some (.int .i64 a0_2) := (blk_cell BK233.out 2).trans rfl
                have hcz68_3 : wr.cell? ⟨gb233, 3, none⟩ = some (.string a0_3) := (blk_cell BK233.out 3).trans rfl
                have hfz68_0 := blk_frozen BK233.out 0
                have hfz68_1 := blk_frozen BK233.out 1
                have hfz68_2 := blk_frozen BK233.out 2
                have hfz68_3 := blk_frozen BK233.out 3
                have p63 : 0 ≤ (x64_3 : Int) := of_decide_eq_true (by first | (with_reducible assumption) | assumption)
                have q63 : x64_3 < (a0_3.size : Int) := of_decide_eq_true (by first | (with_reducible assumption) | assumption)
                have hx63 := bt_at a0_3 x64_3
                replace p63 := eq_true p63
                replace q63 := eq_true q63
                have hcz69_0 : wr.cell? ⟨gb234, 0, none⟩ = some (.int .i64 a1_0) := (blk_cell BK234.out 0).trans rfl
                have hcz69_1 : wr.cell? ⟨gb234, 1, none⟩ = some (.string a1_1) := (blk_cell BK234.out 1).trans rfl
                have hcz69_2 : wr.cell? ⟨gb234, 2, none⟩ = some (.int .i64 a1_2) := (blk_cell BK234.out 2).trans rfl
                have hcz69_3 : wr.cell? ⟨gb234, 3, none⟩ = some (.string a1_3) := (blk_cell BK234.out 3).trans rfl
                have hfz69_0 := blk_frozen BK234.out 0
                have hfz69_1 := blk_frozen BK234.out 1
                have hfz69_2 := blk_frozen BK234.out 2
                have hfz69_3 := blk_frozen BK234.out 3
                have p65 : 0 ≤ (x64_3 : Int) := of_decide_eq_true (by first | (with_reducible assumption) | assumption)
                have q65 : x64_3 < (a1_3.size : Int) := of_decide_eq_true (by first | (with_reducible assumption) | assumption)
                have hx65 := bt_at a1_3 x64_3
                replace p65 := eq_true p65
                replace q65 := eq_true q65
                go_wp2
                repeat (go_quiet (fail); try go_wp2)
                go_roundg k3
                case measure => have := HJ6.out; have := HJ44.out; have := HK3.out; omega
                case rel => exact ⟨(x6_3), (x7_3), (wrap64 (x64_3 + 1)), (by first | rfl | (simp; done) | (simp [*]; done)), (by first | rfl | (simp; done) | (simp [*]; done)), (by first | rfl | (simp; done) | (simp [*]; done)), H', ⟨by have := HJ6.out; have := HJ44.out; have := HK3.out; omega⟩, ⟨pxq BK233⟩, ⟨pxq BK234⟩, ⟨pxb HB⟩⟩
               ·rw [if_neg c66] at H
                have c66b0 : ((bt a0_3 x64_3) == (bt a1_3 x64_3)) = false := beq_eq_false_iff_ne.mpr c66
                have c66b1 : ((bt a0_3 x64_3) != (bt a1_3 x64_3)) = true := bne_iff_ne.mpr c66
                by_cases c70 : x6_3 = true
                ·subst c70
                 have H1 : (if x7_3 = true then (caulkerlaw10_KindPairs.l0 k3 true (x64_3 == (wrap64 ((a0_3.size : Int) - 1))) ((bt a0_3 x64_3) == 32) (a0_3.size : Int) (wrap64 (x64_3 + 1)) a0_0 a0_1 a0_2 a0_3 a1_0 a1_1 a1_2 a1_3) else (caulkerlaw10_KindPairs.l0 k3 true (x64_3 == (wrap64 ((a0_3.size : Int) - 1))) false (a0_3.size : Int) (wrap64 (x64_3 + 1)) a0_0 a0_1 a0_2 a0_3 a1_0 a1_1 a1_2 a1_3)) = some r := by rw [if_pos rfl] at H; exact H
                 clear H
                 have H := H1
                 clear H1
                 by_cases c71 : x7_3 = true
                 ·subst c71
                  have H1 : (caulkerlaw10_KindPairs.l0 k3 true (x64_3 == (wrap64 ((a0_3.size : Int) - 1))) ((bt a0_3 x64_3) == 32) (a0_3.size : Int) (wrap64 (x64_3 + 1)) a0_0 a0_1 a0_2 a0_3 a1_0 a1_1 a1_2 a1_3) = some r := by rw [if_pos rfl] at H; exact H
                  clear H
                  have H := H1
                  clear H1
                  have H' := Aside0.mk H
                  clear H
                  have hnb73 := NB233_234.out
                  have hnc73 := NB234_233.out
                  have hcz74_0 : wr.cell? ⟨gb233, 0, none⟩ = some (.int .i64 a0_0) := (blk_cell BK233.out 0).trans rfl
                  have hcz74_1 : wr.cell? ⟨gb233, 1, none⟩ = some (.string a0_1) := (blk_cell BK233.out 1).trans rfl
                  have hcz74_2 : wr.cell? ⟨gb233, 2, none⟩ = some (.int .i64 a0_2) := (blk_cell BK233.out 2).trans rfl
                  have hcz74_3 : wr.cell? ⟨gb233, 3, none⟩ = some (.string a0_3) := (blk_cell BK233.out 3).trans rfl
                  have hfz74_0 := blk_frozen BK233.out 0
                  have hfz74_1 := blk_frozen BK233.out 1
                  have hfz74_2 := blk_frozen BK233.out 2
                  have hfz74_3 := blk_frozen BK233.out 3
                  have p63 : 0 ≤ (x64_3 : Int) := of_decide_eq_true (by first | (with_reducible assumption) | assumption)
                  have q63 : x64_3 < (a0_3.size : Int) := of_decide_eq_true (by first | (with_reducible assumption) | assumption)
                  have hx63 := bt_at a0_3 x64_3
                  replace p63 := eq_true p63
                  replace q63 := eq_true q63
                  have hcz75_0 : wr.cell? ⟨gb234, 0, none⟩ = some (.int .i64 a1_0) := (blk_cell BK234.out 0).trans rfl
                  have hcz75_1 : wr.cell? ⟨gb234, 1, none⟩ = some (.string a1_1) := (blk_cell BK234.out 1).trans rfl
                  have hcz75_2 : wr.cell? ⟨gb234, 2, none⟩ = some (.int .i64 a1_2) := (blk_cell BK234.out 2).trans rfl
                  have hcz75_3 : wr.cell? ⟨gb234, 3, none⟩ = some (.string a1_3) := (blk_cell BK234.out 3).trans rfl
                  have hfz75_0 := blk_frozen BK234.out 0
                  have hfz75_1 := blk_frozen BK234.out 1
                  have hfz75_2 := blk_frozen BK234.out 2
                  have hfz75_3 := blk_frozen BK234.out 3
                  have p65 : 0 ≤ (x64_3 : Int) := of_decide_eq_true (by first | (with_reducible assumption) | assumption)
                  have q65 : x64_3 < (a1_3.size : Int) := of_decide_eq_true (by first | (with_reducible assumption) | assumption)
                  have hx65 := bt_at a1_3 x64_3
                  replace p65 := eq_true p65
                  replace q65 := eq_true q65
                  have p72 : 0 ≤ (x64_3 : Int) := of_decide_eq_true (by first | (with_reducible assumption) | assumption)
                  have q72 : x64_3 < (a0_3.size : Int) := of_decide_eq_true (by first | (with_reducible assumption) | assumption)
                  have hx72 := bt_at a0_3 x64_3
                  replace p72 := eq_true p72
                  replace q72 := eq_true q72
                  go_wp2
                  repeat (go_quiet (fail); try go_wp2)
                  go_roundg k3
                  case measure => have := HJ6.out; have := HJ44.out; have := HK3.out; omega
                  case rel => exact ⟨((x64_3 == (wrap64 ((a0_3.size : Int) - 1)))), (((bt a0_3 x64_3) == 32)), (wrap64 (x64_3 + 1)), (by first | rfl | (simp; done) | (simp [*]; done)), (by first | rfl | (simp; done) | (simp [*]; done)), (by first | rfl | (simp; done) | (simp [*]; done)), H', ⟨by have := HJ6.out; have := HJ44.out; have := HK3.out; omega⟩, ⟨pxq BK233⟩, ⟨pxq BK234⟩, ⟨pxb HB⟩⟩
                 ·replace c71 := Bool.eq_false_iff.mpr c71
                  subst c71
                  have H1 : (caulkerlaw10_KindPairs.l0 k3 true (x64_3 == (wrap64 ((a0_3.size : Int) - 1))) false (a0_3.size : Int) (wrap64 (x64_3 + 1)) a0_0 a0_1 a0_2 a0_3 a1_0 a1_1 a1_2 a1_3) = some r := by rw [if_neg (show ¬ (false = true) by decide)] at H; exact H
                  clear H
                  have H := H1
                  clear H1
                  have H' := Aside0.mk H
                  clear H
                  have hnb76 := NB233_234.out
                  have hnc76 := NB234_233.out
                  have hcz77_0 : wr.cell? ⟨gb233, 0, none⟩ = some (.int .i64 a0_0) := (blk_cell BK233.out 0).trans rfl
                  have hcz77_1 : wr.cell? ⟨gb233, 1, none⟩ = some (.string a0_1) := (blk_cell BK233.out 1).trans rfl
                  have hcz77_2 : wr.cell? ⟨gb233, 2, none⟩ = some (.int .i64 a0_2) := (blk_cell BK233.out 2).trans rfl
                  have hcz77_3 : wr.cell? ⟨gb233, 3, none⟩ = some (.string a0_3) := (blk_cell BK233.out 3).trans rfl
                  have hfz77_0 := blk_frozen BK233.out 0
                  have hfz77_1 := blk_frozen BK233.out 1
                  have hfz77_2 := blk_frozen BK233.out 2
                  have hfz77_3 := blk_frozen BK233.out 3
                  have p63 : 0 ≤ (x64_3 : Int) := of_decide_eq_true (by first | (with_reducible assumption) | assumption)
                  have q63 : x64_3 < (a0_3.size : Int) := of_decide_eq_true (by first | (with_reducible assumption) | assumption)
                  have hx63 := bt_at a0_3 x64_3
                  replace p63 := eq_true p63
                  replace q63 := eq_true q63
                  have hcz78_0 : wr.cell? ⟨gb234, 0, none⟩ = some (.int .i64 a1_0) := (blk_cell BK234.out 0).trans rfl
                  have hcz78_1 : wr.cell? ⟨gb234, 1, none⟩ = some (.string a1_1) := (blk_cell BK234.out 1).trans rfl
                  have hcz78_2 : wr.cell? ⟨gb234, 2, none⟩ = some (.int .i64 a1_2) := (blk_cell BK234.out 2).trans rfl
                  have hcz78_3 : wr.cell? ⟨gb234, 3, none⟩ = some (.string a1_3) := (blk_cell BK234.out 3).trans rfl
                  have hfz78_0 := blk_frozen BK234.out 0
                  have hfz78_1 := blk_frozen BK234.out 1
                  have hfz78_2 := blk_frozen BK234.out 2
                  have hfz78_3 := blk_frozen BK234.out 3
                  have p65 : 0 ≤ (x64_3 : Int) := of_decide_eq_true (by first | (with_reducible assumption) | assumption)
                  have q65 : x64_3 < (a1_3.size : Int) := of_decide_eq_true (by first | (with_reducible assumption) | assumption)
                  have hx65 := bt_at a1_3 x64_3
                  replace p65 := eq_true p65
                  replace q65 := eq_true q65
                  go_wp2
                  repeat (go_quiet (fail); try go_wp2)
                  go_roundg k3
                  case measure => have := HJ6.out; have := HJ44.out; have := HK3.out; omega
                  case rel => exact ⟨((x64_3 == (wrap64 ((a0_3.size : Int) - 1)))), (false), (wrap64 (x64_3 + 1)), (by first | rfl | (simp; done) | (simp [*]; done)), (by first | rfl | (simp; done) | (simp [*]; done)), (by first | rfl | (simp; done) | (simp [*]; done)), H', ⟨by have := HJ6.out; have := HJ44.out; have := HK3.out; omega⟩, ⟨pxq BK233⟩, ⟨pxq BK234⟩, ⟨pxb HB⟩⟩
                ·replace c70 := Bool.eq_false_iff.mpr c70
                 subst c70
                 have H1 : (if x7_3 = true then (caulkerlaw10_KindPairs.l0 k3 true false ((bt a0_3 x64_3) == 32) (a0_3.size : Int) (wrap64 (x64_3 + 1)) a0_0 a0_1 a0_2 a0_3 a1_0 a1_1 a1_2 a1_3) else (caulkerlaw10_KindPairs.l0 k3 true false false (a0_3.size : Int) (wrap64 (x64_3 + 1)) a0_0 a0_1 a0_2 a0_3 a1_0 a1_1 a1_2 a1_3)) = some r := by rw [if_neg (show ¬ (false = true) by decide)] at H; exact H
                 clear H
                 have H := H1
                 clear H1
                 by_cases c79 : x7_3 = true
                 ·subst c79
                  have H1 : (caulkerlaw10_KindPairs.l0 k3 true false ((bt a0_3 x64_3) == 32) (a0_3.size : Int) (wrap64 (x64_3 + 1)) a0_0 a0_1 a0_2 a0_3 a1_0 a1_1 a1_2 a1_3) = some r := by rw [if_pos rfl] at H; exact H
                  clear H
                  have H := H1
                  clear H1
                  have H' := Aside0.mk H
                  clear H
                  have hnb81 := NB233_234.out
                  have hnc81 := NB234_233.out
                  have hcz82_0 : wr.cell? ⟨gb233, 0, none⟩ = some (.int .i64 a0_0) := (blk_cell BK233.out 0).trans rfl
                  have hcz82_1 : wr.cell? ⟨gb233, 1, none⟩ = some (.string a0_1) := (blk_cell BK233.out 1).trans rfl
                  have hcz82_2 : wr.cell? ⟨gb233, 2, none⟩ = some (.int .i64 a0_2) := (blk_cell BK233.out 2).trans rfl
                  have hcz82_3 : wr.cell? ⟨gb233, 3, none⟩ = some (.string a0_3) := (blk_cell BK233.out 3).trans rfl
                  have hfz82_0 := blk_frozen BK233.out 0
                  have hfz82_1 := blk_frozen BK233.out 1
                  have hfz82_2 := blk_frozen BK233.out 2
                  have hfz82_3 := blk_frozen BK233.out 3
                  have p63 : 0 ≤ (x64_3 : Int) := of_decide_eq_true (by first | (with_reducible assumption) | assumption)
                  have q63 : x64_3 < (a0_3.size : Int) := of_decide_eq_true (by first | (with_reducible assumption) | assumption)
                  have hx63 := bt_at a0_3 x64_3
                  replace p63 := eq_true p63
                  replace q63 := eq_true q63
                  have hcz83_0 : wr.cell? ⟨gb234, 0, none⟩ = some (.int .i64 a1_0) := (blk_cell BK234.out 0).trans rfl
                  have hcz83_1 : wr.cell? ⟨gb234, 1, none⟩ = some (.string a1_1) := (blk_cell BK234.out 1).trans rfl
                  have hcz83_2 : wr.cell? ⟨gb234, 2, none⟩ = some (.int .i64 a1_2) := (blk_cell BK234.out 2).trans rfl
                  have hcz83_3 : wr.cell? ⟨gb234, 3, none⟩ = some (.string a1_3) := (blk_cell BK234.out 3).trans rfl
                  have hfz83_0 := blk_frozen BK234.out 0
                  have hfz83_1 := blk_frozen BK234.out 1
                  have hfz83_2 := blk_frozen BK234.out 2
                  have hfz83_3 := blk_frozen BK234.out 3
                  have p65 : 0 ≤ (x64_3 : Int) := of_decide_eq_true (by first | (with_reducible assumption) | assumption)
                  have q65 : x64_3 < (a1_3.size : Int) := of_decide_eq_true (by first | (with_reducible assumption) | assumption)
                  have hx65 := bt_at a1_3 x64_3
                  replace p65 := eq_true p65
                  replace q65 := eq_true q65
                  have p80 : 0 ≤ (x64_3 : Int) := of_decide_eq_true (by first | (with_reducible assumption) | assumption)
                  have q80 : x64_3 < (a0_3.size : Int) := of_decide_eq_true (by first | (with_reducible assumption) | assumption)
                  have hx80 := bt_at a0_3 x64_3
                  replace p80 := eq_true p80
                  replace q80 := eq_true q80
                  go_wp2
                  repeat (go_quiet (fail); try go_wp2)
                  go_roundg k3
                  case measure => have := HJ6.out; have := HJ44.out; have := HK3.out; omega
                  case rel => exact ⟨(false), (((bt a0_3 x64_3) == 32)), (wrap64 (x64_3 + 1)), (by first | rfl | (simp; done) | (simp [*]; done)), (by first | rfl | (simp; done) | (simp [*]; done)), (by first | rfl | (simp; done) | (simp [*]; done)), H', ⟨by have := HJ6.out; have := HJ44.out; have := HK3.out; omega⟩, ⟨pxq BK233⟩, ⟨pxq BK234⟩, ⟨pxb HB⟩⟩
                 ·replace c79 := Bool.eq_false_iff.mpr c79
                  subst c79
                  have H1 : (caulkerlaw10_KindPairs.l0 k3 true false false (a0_3.size : Int) (wrap64 (x64_3 + 1)) a0_0 a0_1 a0_2 a0_3 a1_0 a1_1 a1_2 a1_3) = some r := by rw [if_neg (show ¬ (false = true) by decide)] at H; exact H
                  clear H
                  have H := H1
                  clear H1
                  have H' := Aside0.mk H
                  clear H
                  have hnb84 := NB233_234.out
                  have hnc84 := NB234_233.out
                  have hcz85_0 : wr.cell? ⟨gb233, 0, none⟩ = some (.int .i64 a0_0) := (blk_cell BK233.out 0).trans rfl
                  have hcz85_1 : wr.cell? ⟨gb233, 1, none⟩ = some (.string a0_1) := (blk_cell BK233.out 1).trans rfl
                  have hcz85_2 : wr.cell? ⟨gb233, 2, none⟩ = some (.int .i64 a0_2) := (blk_cell BK233.out 2).trans rfl
                  have hcz85_3 : wr.cell? ⟨gb233, 3, none⟩ = some (.string a0_3) := (blk_cell BK233.out 3).trans rfl
                  have hfz85_0 := blk_frozen BK233.out 0
                  have hfz85_1 := blk_frozen BK233.out 1
                  have hfz85_2 := blk_frozen BK233.out 2
                  have hfz85_3 := blk_frozen BK233.out 3
                  have p63 : 0 ≤ (x64_3 : Int) := of_decide_eq_true (by first | (with_reducible assumption) | assumption)
                  have q63 : x64_3 < (a0_3.size : Int) := of_decide_eq_true (by first | (with_reducible assumption) | assumption)
                  have hx63 := bt_at a0_3 x64_3
                  replace p63 := eq_true p63
                  replace q63 := eq_true q63
                  have hcz86_0 : wr.cell? ⟨gb234, 0, none⟩ = some (.int .i64 a1_0) := (blk_cell BK234.out 0).trans rfl
                  have hcz86_1 : wr.cell? ⟨gb234, 1, none⟩ = some (.string a1_1) := (blk_cell BK234.out 1).trans rfl
                  have hcz86_2 : wr.cell? ⟨gb234, 2, none⟩ = some (.int .i64 a1_2) := (blk_cell BK234.out 2).trans rfl
                  have hcz86_3 : wr.cell? ⟨gb234, 3, none⟩ = some (.string a1_3) := (blk_cell BK234.out 3).trans rfl
                  have hfz86_0 := blk_frozen BK234.out 0
                  have hfz86_1 := blk_frozen BK234.out 1
                  have hfz86_2 := blk_frozen BK234.out 2
                  have hfz86_3 := blk_frozen BK234.out 3
                  have p65 : 0 ≤ (x64_3 : Int) := of_decide_eq_true (by first | (with_reducible assumption) | assumption)
                  have q65 : x64_3 < (a1_3.size : Int) := of_decide_eq_true (by first | (with_reducible assumption) | assumption)
                  have hx65 := bt_at a1_3 x64_3
                  replace p65 := eq_true p65
                  replace q65 := eq_true q65
                  go_wp2
                  repeat (go_quiet (fail); try go_wp2)
                  go_roundg k3
                  case measure => have := HJ6.out; have := HJ44.out; have := HK3.out; omega
                  case rel => exact ⟨(false), (false), (wrap64 (x64_3 + 1)), (by first | rfl | (simp; done) | (simp [*]; done)), (by first | rfl | (simp; done) | (simp [*]; done)), (by first | rfl | (simp; done) | (simp [*]; done)), H', ⟨by have := HJ6.out; have := HJ44.out; have := HK3.out; omega⟩, ⟨pxq BK233⟩, ⟨pxq BK234⟩, ⟨pxb HB⟩⟩
              ·rw [if_neg c64] at H
               exact absurd H (by simp)
             ·rw [if_neg c62] at H
              exact absurd H (by simp)
            ·rw [if_neg c61] at H
             exact absurd H (by simp)
           ·replace c60 := Bool.eq_false_iff.mpr c60
            subst c60
            have H1 : (caulkerlaw10_KindPairs.l0 k3 false x6_3 x7_3 (a0_3.size : Int) (wrap64 (x64_3 + 1)) a0_0 a0_1 a0_2 a0_3 a1_0 a1_1 a1_2 a1_3) = some r := by rw [if_neg (show ¬ (false = true) by decide)] at H; exact H
            clear H
            have H := H1
            clear H1
            have H' := Aside0.mk H
            clear H
            go_wp2
            repeat (go_quiet (fail); try go_wp2)
            go_roundg k3
            case measure => have := HJ6.out; have := HJ44.out; have := HK3.out; omega
            case rel => exact ⟨(x6_3), (x7_3), (wrap64 (x64_3 + 1)), (by first | rfl | (simp; done) | (simp [*]; done)), (by first | rfl | (simp; done) | (simp [*]; done)), (by first | rfl | (simp; done) | (simp [*]; done)), H', ⟨by have := HJ6.out; have := HJ44.out; have := HK3.out; omega⟩, ⟨pxq BK233⟩, ⟨pxq BK234⟩, ⟨pxb HB⟩⟩
          ·rw [if_neg c59] at H
           have c59b0 : decide (x64_3 < (a0_3.size : Int)) = false := decide_eq_false c59
           clear c59
           replace H := Option.bind_eq_some_iff.mp H
           obtain ⟨t245, A870, H⟩ := H
           replace H : (if (t245 == x5_44) = true then ((kind_Inside.f k3 a0_0 a0_1 a0_2 a0_3 a1_0 a1_1 a1_2 a1_3).bind fun t246 => (if (t246 == x6_3) = true then ((kind_Less.f k3 a0_0 a0_1 a0_2 a0_3 a1_0 a1_1 a1_2 a1_3).bind fun t247 => (some (t247 == x7_3))) else (none))) else (none)) = some r := H
           have A87 := Aside0.mk A870
           clear A870
           by_cases c88 : (t245 == x5_44) = true
           ·rw [if_pos c88] at H
            have c88b0 : (t245 == x5_44) = true := c88
            (try (have c88b1 : decide (t245 = x5_44) = true := by simpa using c88))
            (try (have c88b2 : (t245 == x5_44) = true := by simpa using c88))
            clear c88
            replace H := Option.bind_eq_some_iff.mp H
            obtain ⟨t246, A890, H⟩ := H
            replace H : (if (t246 == x6_3) = true then ((kind_Less.f k3 a0_0 a0_1 a0_2 a0_3 a1_0 a1_1 a1_2 a1_3).bind fun t247 => (some (t247 == x7_3))) else (none)) = some r := H
            have A89 := Aside0.mk A890
            clear A890
            by_cases c90 : (t246 == x6_3) = true
            ·rw [if_pos c90] at H
             have c90b0 : (t246 == x6_3) = true := c90
             (try (have c90b1 : decide (t246 = x6_3) = true := by simpa using c90))
             (try (have c90b2 : (t246 == x6_3) = true := by simpa using c90))
             clear c90
             replace H := Option.bind_eq_some_iff.mp H
             obtain ⟨t247, A910, H⟩ := H
             replace H : (some (t247 == x7_3)) = some r := H
             have A91 := Aside0.mk A910
             clear A910
             obtain rfl := Option.some.inj H
             have hnb92 := NB233_234.out
             have hnc92 := NB234_233.out
             have hcz93_0 : wr.cell? ⟨gb233, 0, none⟩ = some (.int .i64 a0_0) := (blk_cell BK233.out 0).trans rfl
             have hcz93_1 : wr.cell? ⟨gb233, 1, none⟩ = some (.string a0_1) := (blk_cell BK233.out 1).trans rfl
             have hcz93_2 : wr.cell? ⟨gb233, 2, none⟩ = some (.int .i64 a0_2) := (blk_cell BK233.out 2).trans rfl
             have hcz93_3 : wr.cell? ⟨gb233, 3, none⟩ = some (.string a0_3) := (blk_cell BK233.out 3).trans rfl
             have hfz93_0 := blk_frozen BK233.out 0
             have hfz93_1 := blk_frozen BK233.out 1
             have hfz93_2 := blk_frozen BK233.out 2
             have hfz93_3 := blk_frozen BK233.out 3
             have hcz94_0 : wr.cell? ⟨gb234, 0, none⟩ = some (.int .i64 a1_0) := (blk_cell BK234.out 0).trans rfl
             have hcz94_1 : wr.cell? ⟨gb234, 1, none⟩ = some (.string a1_1) := (blk_cell BK234.out 1).trans rfl
             have hcz94_2 : wr.cell? ⟨gb234, 2, none⟩ = some (.int .i64 a1_2) := (blk_cell BK234.out 2).trans rfl
             have hcz94_3 : wr.cell? ⟨gb234, 3, none⟩ = some (.string a1_3) := (blk_cell BK234.out 3).trans rfl
             have hfz94_0 := blk_frozen BK234.out 0
             have hfz94_1 := blk_frozen BK234.out 1
             have hfz94_2 := blk_frozen BK234.out 2
             have hfz94_3 := blk_frozen BK234.out 3
             go_wp2_with (first | (go_at_call 12; (with_reducible refine (kind_Alike.calls k3 a0_0 a0_1 a0_2 a0_3 a1_0 a1_1 a1_2 a1_3 t245 _ A87.out).mono ?_); rintro e w95 ⟨rfl, hb⟩; have n0_ := pxk BK233 hb; have n1_ := pxk BK234 hb; have n2_ := pxs HB hb; clear BK233; clear BK234; clear HB; have BK233 := n0_; have BK234 := n1_; have HB := n2_; clear n0_ n1_ n2_; (try clear hb); (try clear hb2); (try clear hk); (try clear hi); have hcz96_0 : w95.cell? ⟨gb233, 0, none⟩ = some (.int .i64 a0_0) := (blk_cell BK233.out 0).trans rfl; have hcz96_1 : w95.cell? ⟨gb233, 1, none⟩ = some (.string a0_1) := (blk_cell BK233.out 1).trans rfl; have hcz96_2 : w95.cell? ⟨gb233, 2, none⟩ = some (.int .i64 a0_2) := (blk_cell BK233.out 2).trans rfl; have hcz96_3 : w95.cell? ⟨gb233, 3, none⟩ = some (.string a0_3) := (blk_cell BK233.out 3).trans rfl; have hfz96_0 := blk_frozen BK233.out 0; have hfz96_1 := blk_frozen BK233.out 1; have hfz96_2 := blk_frozen BK233.out 2; have hfz96_3 := blk_frozen BK233.out 3; have hcz97_0 : w95.cell? ⟨gb234, 0, none⟩ = some (.int .i64 a1_0) := (blk_cell BK234.out 0).trans rfl; have hcz97_1 : w95.cell? ⟨gb234, 1, none⟩ = some (.string a1_1) := (blk_cell BK234.out 1).trans rfl; have hcz97_2 : w95.cell? ⟨gb234, 2, none⟩ = some (.int .i64 a1_2) := (blk_cell BK234.out 2).trans rfl; have hcz97_3 : w95.cell? ⟨gb234, 3, none⟩ = some (.string a1_3) := (blk_cell BK234.out 3).trans rfl; have hfz97_0 := blk_frozen BK234.out 0; have hfz97_1 := blk_frozen BK234.out 1; have hfz97_2 := blk_frozen BK234.out 2; have hfz97_3 := blk_frozen BK234.out 3) | (go_at_call 13; (with_reducible refine (kind_Inside.calls k3 a0_0 a0_1 a0_2 a0_3 a1_0 a1_1 a1_2 a1_3 t246 _ A89.out).mono ?_); rintro e w98 ⟨rfl, hb⟩; have n0_ := pxk BK233 hb; have n1_ := pxk BK234 hb; have n2_ := pxs HB hb; clear BK233; clear BK234; clear HB; have BK233 := n0_; have BK234 := n1_; have HB := n2_; clear n0_ n1_ n2_; (try clear hb); (try clear hb2); (try clear hk); (try clear hi); have hcz99_0 : w98.cell? ⟨gb233, 0, none⟩ = some (.int .i64 a0_0) := (blk_cell BK233.out 0).trans rfl; have hcz99_1 : w98.cell? ⟨gb233, 1, none⟩ = some (.string a0_1) := (blk_cell BK233.out 1).trans rfl; have hcz99_2 : w98.cell? ⟨gb233, 2, none⟩ = some (.int .i64 a0_2) := (blk_cell BK233.out 2).trans rfl; have hcz99_3 : w98.cell? ⟨gb233, 3, none⟩ = some (.string a0_3) := (blk_cell BK233.out 3).trans rfl; have hfz99_0 := blk_frozen BK233.out 0; have hfz99_1 := blk_frozen BK233.out 1; have hfz99_2 := blk_frozen BK233.out 2; have hfz99_3 := blk_frozen BK233.out 3; have hcz100_0 : w98.cell? ⟨gb234, 0, none⟩ = some (.int .i64 a1_0) := (blk_cell BK234.out 0).trans rfl; have hcz100_1 : w98.cell? ⟨gb234, 1, none⟩ = some (.string a1_1) := (blk_cell BK234.out 1).trans rfl; have hcz100_2 : w98.cell? ⟨gb234, 2, none⟩ = some (.int .i64 a1_2) := (blk_cell BK234.out 2).trans rfl; have hcz100_3 : w98.cell? ⟨gb234, 3, none⟩ = some (.string a1_3) := (blk_cell BK234.out 3).trans rfl; have hfz100_0 := blk_frozen BK234.out 0; have hfz100_1 := blk_frozen BK234.out 1; have hfz100_2 := blk_frozen BK234.out 2; have hfz100_3 := blk_frozen BK234.out 3) | (go_at_call 14; (with_reducible refine (kind_Less.calls k3 a0_0 a0_1 a0_2 a0_3 a1_0 a1_1 a1_2 a1_3 t247 _ A91.out).mono ?_); rintro e w101 ⟨rfl, hb⟩; have n0_ := pxk BK233 hb; have n1_ := pxk BK234 hb; have n2_ := pxs HB hb; clear BK233; clear BK234; clear HB; have BK233 := n0_; have BK234 := n1_; have HB := n2_; clear n0_ n1_ n2_; (try clear hb); (try clear hb2); (try clear hk); (try clear hi)))
             repeat (go_quiet (first | (go_at_call 12; (with_reducible refine (kind_Alike.calls k3 a0_0 a0_1 a0_2 a0_3 a1_0 a1_1 a1_2 a1_3 t245 _ A87.out).mono ?_); rintro e w95 ⟨rfl, hb⟩; have n0_ := pxk BK233 hb; have n1_ := pxk BK234 hb; have n2_ := pxs HB hb; clear BK233; clear BK234; clear HB; have BK233 := n0_; have BK234 := n1_; have HB := n2_; clear n0_ n1_ n2_; (try clear hb); (try clear hb2); (try clear hk); (try clear hi); have hcz96_0 : w95.cell? ⟨gb233, 0, none⟩ = some (.int .i64 a0_0) := (blk_cell BK233.out 0).trans rfl; have hcz96_1 : w95.cell? ⟨gb233, 1, none⟩ = some (.string a0_1) := (blk_cell BK233.out 1).trans rfl; have hcz96_2 : w95.cell? ⟨gb233, 2, none⟩ = some (.int .i64 a0_2) := (blk_cell BK233.out 2).trans rfl; have hcz96_3 : w95.cell? ⟨gb233, 3, none⟩ = some (.string a0_3) := (blk_cell BK233.out 3).trans rfl; have hfz96_0 := blk_frozen BK233.out 0; have hfz96_1 := blk_frozen BK233.out 1; have hfz96_2 := blk_frozen BK233.out 2; have hfz96_3 := blk_frozen BK233.out 3; have hcz97_0 : w95.cell? ⟨gb234, 0, none⟩ = some (.int .i64 a1_0) := (blk_cell BK234.out 0).trans rfl; have hcz97_1 : w95.cell? ⟨gb234, 1, none⟩ = some (.string a1_1) := (blk_cell BK234.out 1).trans rfl; have hcz97_2 : w95.cell? ⟨gb234, 2, none⟩ = some (.int .i64 a1_2) := (blk_cell BK234.out 2).trans rfl; have hcz97_3 : w95.cell? ⟨gb234, 3, none⟩ = some (.string a1_3) := (blk_cell BK234.out 3).trans rfl; have hfz97_0 := blk_frozen BK234.out 0; have hfz97_1 := blk_frozen BK234.out 1; have hfz97_2 := blk_frozen BK234.out 2; have hfz97_3 := blk_frozen BK234.out 3) | (go_at_call 13; (with_reducible refine (kind_Inside.calls k3 a0_0 a0_1 a0_2 a0_3 a1_0 a1_1 a1_2 a1_3 t246 _ A89.out).mono ?_); rintro e w98 ⟨rfl, hb⟩; have n0_ := pxk BK233 hb; have n1_ := pxk BK234 hb; have n2_ := pxs HB hb; clear BK233; clear BK234; clear HB; have BK233 := n0_; have BK234 := n1_; have HB := n2_; clear n0_ n1_ n2_; (try clear hb); (try clear hb2); (try clear hk); (try clear hi); have hcz99_0 : w98.cell? ⟨gb233, 0, none⟩ = some (.int .i64 a0_0) := (blk_cell BK233.out 0).trans rfl; have hcz99_1 : w98.cell? ⟨gb233, 1, none⟩ = some (.string a0_1) := (blk_cell BK233.out 1).trans rfl; have hcz99_2 : w98.cell? ⟨gb233, 2, none⟩ = some (.int .i64 a0_2) := (blk_cell BK233.out 2).trans rfl; have hcz99_3 : w98.cell? ⟨gb233, 3, none⟩ = some (.string a0_3) := (blk_cell BK233.out 3).trans rfl; have hfz99_0 := blk_frozen BK233.out 0; have hfz99_1 := blk_frozen BK233.out 1; have hfz99_2 := blk_frozen BK233.out 2; have hfz99_3 := blk_frozen BK233.out 3; have hcz100_0 : w98.cell? ⟨gb234, 0, none⟩ = some (.int .i64 a1_0) := (blk_cell BK234.out 0).trans rfl; have hcz100_1 : w98.cell? ⟨gb234, 1, none⟩ = some (.string a1_1) := (blk_cell BK234.out 1).trans rfl; have hcz100_2 : w98.cell? ⟨gb234, 2, none⟩ = some (.int .i64 a1_2) := (blk_cell BK234.out 2).trans rfl; have hcz100_3 : w98.cell? ⟨gb234, 3, none⟩ = some (.string a1_3) := (blk_cell BK234.out 3).trans rfl; have hfz100_0 := blk_frozen BK234.out 0; have hfz100_1 := blk_frozen BK234.out 1; have hfz100_2 := blk_frozen BK234.out 2; have hfz100_3 := blk_frozen BK234.out 3) | (go_at_call 14; (with_reducible refine (kind_Less.calls k3 a0_0 a0_1 a0_2 a0_3 a1_0 a1_1 a1_2 a1_3 t247 _ A91.out).mono ?_); rintro e w101 ⟨rfl, hb⟩; have n0_ := pxk BK233 hb; have n1_ := pxk BK234 hb; have n2_ := pxs HB hb; clear BK233; clear BK234; clear HB; have BK233 := n0_; have BK234 := n1_; have HB := n2_; clear n0_ n1_ n2_; (try clear hb); (try clear hb2); (try clear hk); (try clear hi))); try go_wp2_with (first | (go_at_call 12; (with_reducible refine (kind_Alike.calls k3 a0_0 a0_1 a0_2 a0_3 a1_0 a1_1 a1_2 a1_3 t245 _ A87.out).mono ?_); rintro e w95 ⟨rfl, hb⟩; have n0_ := pxk BK233 hb; have n1_ := pxk BK234 hb; have n2_ := pxs HB hb; clear BK233; clear BK234; clear HB; have BK233 := n0_; have BK234 := n1_; have HB := n2_; clear n0_ n1_ n2_; (try clear hb); (try clear hb2); (try clear hk); (try clear hi); have hcz96_0 : w95.cell? ⟨gb233, 0, none⟩ = some (.int .i64 a0_0) := (blk_cell BK233.out 0).trans rfl; have hcz96_1 : w95.cell? ⟨gb233, 1, none⟩ = some (.string a0_1) := (blk_cell BK233.out 1).trans rfl; have hcz96_2 : w95.cell? ⟨gb233, 2, none⟩ = some (.int .i64 a0_2) := (blk_cell BK233.out 2).trans rfl; have hcz96_3 : w95.cell? ⟨gb233, 3, none⟩ = some (.string a0_3) := (blk_cell BK233.out 3).trans rfl; have hfz96_0 := blk_frozen BK233.out 0; have hfz96_1 := blk_frozen BK233.out 1; have hfz96_2 := blk_frozen BK233.out 2; have hfz96_3 := blk_frozen BK233.out 3; have hcz97_0 : w95.cell? ⟨gb234, 0, none⟩ = some (.int .i64 a1_0) := (blk_cell BK234.out 0).trans rfl; have hcz97_1 : w95.cell? ⟨gb234, 1, none⟩ = some (.string a1_1) := (blk_cell BK234.out 1).trans rfl; have hcz97_2 : w95.cell? ⟨gb234, 2, none⟩ = some (.int .i64 a1_2) := (blk_cell BK234.out 2).trans rfl; have hcz97_3 : w95.cell? ⟨gb234, 3, none⟩ = some (.string a1_3) := (blk_cell BK234.out 3).trans rfl; have hfz97_0 := blk_frozen BK234.out 0; have hfz97_1 := blk_frozen BK234.out 1; have hfz97_2 := blk_frozen BK234.out 2; have hfz97_3 := blk_frozen BK234.out 3) | (go_at_call 13; (with_reducible refine (kind_Inside.calls k3 a0_0 a0_1 a0_2 a0_3 a1_0 a1_1 a1_2 a1_3 t246 _ A89.out).mono ?_); rintro e w98 ⟨rfl, hb⟩; have n0_ := pxk BK233 hb; have n1_ := pxk BK234 hb; have n2_ := pxs HB hb; clear BK233; clear BK234; clear HB; have BK233 := n0_; have BK234 := n1_; have HB := n2_; clear n0_ n1_ n2_; (try clear hb); (try clear hb2); (try clear hk); (try clear hi); have hcz99_0 : w98.cell? ⟨gb233, 0, none⟩ = some (.int .i64 a0_0) := (blk_cell BK233.out 0).trans rfl; have hcz99_1 : w98.cell? ⟨gb233, 1, none⟩ = some (.string a0_1) := (blk_cell BK233.out 1).trans rfl; have hcz99_2 : w98.cell? ⟨gb233, 2, none⟩ = some (.int .i64 a0_2) := (blk_cell BK233.out 2).trans rfl; have hcz99_3 : w98.cell? ⟨gb233, 3, none⟩ = some (.string a0_3) := (blk_cell BK233.out 3).trans rfl; have hfz99_0 := blk_frozen BK233.out 0; have hfz99_1 := blk_frozen BK233.out 1; have hfz99_2 := blk_frozen BK233.out 2; have hfz99_3 := blk_frozen BK233.out 3; have hcz100_0 : w98.cell? ⟨gb234, 0, none⟩ = some (.int .i64 a1_0) := (blk_cell BK234.out 0).trans rfl; have hcz100_1 : w98.cell? ⟨gb234, 1, none⟩ = some (.string a1_1) := (blk_cell BK234.out 1).trans rfl; have hcz100_2 : w98.cell? ⟨gb234, 2, none⟩ = some (.int .i64 a1_2) := (blk_cell BK234.out 2).trans rfl; have hcz100_3 : w98.cell? ⟨gb234, 3, none⟩ = some (.string a1_3) := (blk_cell BK234.out 3).trans rfl; have hfz100_0 := blk_frozen BK234.out 0; have hfz100_1 := blk_frozen BK234.out 1; have hfz100_2 := blk_frozen BK234.out 2; have hfz100_3 := blk_frozen BK234.out 3) | (go_at_call 14; (with_reducible refine (kind_Less.calls k3 a0_0 a0_1 a0_2 a0_3 a1_0 a1_1 a1_2 a1_3 t247 _ A91.out).mono ?_); rintro e w101 ⟨rfl, hb⟩; have n0_ := pxk BK233 hb; have n1_ := pxk BK234 hb; have n2_ := pxs HB hb; clear BK233; clear BK234; clear HB; have BK233 := n0_; have BK234 := n1_; have HB := n2_; clear n0_ n1_ n2_; (try clear hb); (try clear hb2); (try clear hk); (try clear hi))))
             go_ret
             exact ⟨by first | rfl | (simp [errW_none, errW_some] <;> rfl) | (simp [*, errW_none, errW_some] <;> rfl), pxb HB⟩
            ·rw [if_neg c90] at H
             exact absurd H (by simp)
           ·rw [if_neg c88] at H
            exact absurd H (by simp)
  ·replace c6 := Bool.eq_false_iff.mpr c6
   subst c6
   have H1 : (some true) = some r := by rw [if_neg (show ¬ (false = true) by decide)] at H; exact H
   clear H
   have H := H1
   clear H1
   obtain rfl := Option.some.inj H
   go_enter Try.func3, Try.ntmps3
   go_wp2_with (first | ((with_reducible refine gate_dst (N := 2) rfl ?_); refine box_event ?hg (N := 2) ?hd (cs := #[.int .i64 a0_0, .string a0_1, .int .i64 a0_2, .string a0_3]) (t := 23) ?hr ?_; (case hd => rfl); (case hg => rfl); (case hr => first | (go_simp; done) | (go_simp; rfl)); intro gb233 hg w102 hbox hb; have n0_ := pxs HB hb; have n1_ := Aside0.mk (hbox); have n2_ := Aside0.mk ((by rw [hg]; exact (below_size (pxb HB)) : w.heap.size ≤ gb233)); have n3_ := Aside0.mk ((by rw [hg]; exact (below_size (pxb HB)) : w.heap.size ≤ gb233)); clear HB; have HB := n0_; have BK233 := n1_; have GW233 := n2_; have GE233 := n3_; clear n0_ n1_ n2_ n3_; clear hb hbox hg) | ((with_reducible refine gate_dst (N := 3) rfl ?_); refine box_event ?hg (N := 3) ?hd (cs := #[.int .i64 a1_0, .string a1_1, .int .i64 a1_2, .string a1_3]) (t := 23) ?hr ?_; (case hd => rfl); (case hg => rfl); (case hr => first | (go_simp; done) | (go_simp; rfl)); intro gb234 hg w103 hbox hb; have n0_ := pxk BK233 hb; have n1_ := pxs HB hb; have n2_ := Aside0.mk (hbox); have n3_ := Aside0.mk ((by rw [hg]; exact (below_size (pxb HB)) : w.heap.size ≤ gb234)); have n4_ := Aside0.mk ((by rw [hg]; exact (below_size (pxb HB)) : w.heap.size ≤ gb234)); have n5_ := Aside0.mk ((by rw [hg]; exact Nat.ne_of_lt (blk_lt (g := gb233) (o := .cells #[.int .i64 a0_0, .string a0_1, .int .i64 a0_2, .string a0_3] 23 (0, 0)) (pxq BK233)) : gb233 ≠ gb234)); have n6_ := Aside0.mk ((by rw [hg]; exact Nat.ne_of_gt (blk_lt (g := gb233) (o := .cells #[.int .i64 a0_0, .string a0_1, .int .i64 a0_2, .string a0_3] 23 (0, 0)) (pxq BK233)) : gb234 ≠ gb233)); clear BK233; clear HB; have BK233 := n0_; have HB := n1_; have BK234 := n2_; have GW234 := n3_; have GE234 := n4_; have NB233_234 := n5_; have NB234_233 := n6_; clear n0_ n1_ n2_ n3_ n4_ n5_ n6_; clear hb hbox hg) | (go_at_call 9; (with_reducible refine (caulkerlaw10_sorts.calls k  true _ A3.out).mono ?_); rintro e w104 ⟨rfl, hb⟩; have n0_ := pxk BK233 hb; have n1_ := pxk BK234 hb; have n2_ := pxs HB hb; clear BK233; clear BK234; clear HB; have BK233 := n0_; have BK234 := n1_; have HB := n2_; clear n0_ n1_ n2_; (try clear hb); (try clear hb2); (try clear hk); (try clear hi); have hnb105 := NB233_234.out; have hnc105 := NB234_233.out; have hcz106_0 : w104.cell? ⟨gb233, 0, none⟩ = some (.int .i64 a0_0) := (blk_cell BK233.out 0).trans rfl; have hcz106_1 : w104.cell? ⟨gb233, 1, none⟩ = some (.string a0_1) := (blk_cell BK233.out 1).trans rfl; have hcz106_2 : w104.cell? ⟨gb233, 2, none⟩ = some (.int .i64 a0_2) := (blk_cell BK233.out 2).trans rfl; have hcz106_3 : w104.cell? ⟨gb233, 3, none⟩ = some (.string a0_3) := (blk_cell BK233.out 3).trans rfl; have hfz106_0 := blk_frozen BK233.out 0; have hfz106_1 := blk_frozen BK233.out 1; have hfz106_2 := blk_frozen BK233.out 2; have hfz106_3 := blk_frozen BK233.out 3; have hcz107_0 : w104.cell? ⟨gb234, 0, none⟩ = some (.int .i64 a1_0) := (blk_cell BK234.out 0).trans rfl; have hcz107_1 : w104.cell? ⟨gb234, 1, none⟩ = some (.string a1_1) := (blk_cell BK234.out 1).trans rfl; have hcz107_2 : w104.cell? ⟨gb234, 2, none⟩ = some (.int .i64 a1_2) := (blk_cell BK234.out 2).trans rfl; have hcz107_3 : w104.cell? ⟨gb234, 3, none⟩ = some (.string a1_3) := (blk_cell BK234.out 3).trans rfl; have hfz107_0 := blk_frozen BK234.out 0; have hfz107_1 := blk_frozen BK234.out 1; have hfz107_2 := blk_frozen BK234.out 2; have hfz107_3 := blk_frozen BK234.out 3) | ((with_reducible refine gate_dst (N := 13) rfl ?_); refine Kd.R_lit k23 _ 23 ?hg (N := 13) ?hd (xs := ([(⟨a0_0, a0_1, a0_2, a0_3⟩ : S23), (⟨a1_0, a1_1, a1_2, a1_3⟩ : S23)] : List (S23))) (inner := [.int .i64 a0_0, .string a0_1, .int .i64 a0_2, .string a0_3, .int .i64 a1_0, .string a1_1, .int .i64 a1_2, .string a1_3]) (ok := fun _ => True) (okp := fun _ => True) ?hr ?hp (fun _ hk => hk) trivial (Below.refl _ _) (Nat.le_refl _) (by simp) ?_; (case hd => rfl); (case hg => rfl); (case hr => first | (go_simp; done) | (go_simp; rfl)); (case hp => exact (Reps.c4 (show Kd.M k23 _ _ _ (⟨a0_0, a0_1, a0_2, a0_3⟩ : S23) [.int .i64 a0_0, .string a0_1, .int .i64 a0_2, .string a0_3] from (k23_mkM _ _ _ (⟨a0_0, a0_1, a0_2, a0_3⟩ : S23) )) (Reps.c4 (show Kd.M k23 _ _ _ (⟨a1_0, a1_1, a1_2, a1_3⟩ : S23) [.int .i64 a1_0, .string a1_1, .int .i64 a1_2, .string a1_3] from (k23_mkM _ _ _ (⟨a1_0, a1_1, a1_2, a1_3⟩ : S23) )) (Reps.none _ _)))); intro v237 w108 ho109 hb hg_ hnew_; clear hg_ hnew_; (first | rw [← Ny236.out] at ho109 | (simp only [Int.reduceToNat] at ho109; rw [← Ny236.out] at ho109)); have n0_ := Aside0.mk (Kd.R_lower (Kd.R_newB (Kd.R_newB ho109 (g := gb233) (o := .cells #[.int .i64 a0_0, .string a0_1, .int .i64 a0_2, .string a0_3] 23 (0, 0)) (pxq BK233)) (g := gb234) (o := .cells #[.int .i64 a1_0, .string a1_1, .int .i64 a1_2, .string a1_3] 23 (0, 0)) (pxq BK234)) (below_size (pxb HB))); have n1_ := pxk BK233 hb; have n2_ := pxk BK234 hb; have n3_ := pxs HB hb; clear BK233; clear BK234; clear HB; have HO238 := n0_; have BK233 := n1_; have BK234 := n2_; have HB := n3_; clear n0_ n1_ n2_ n3_; clear hb ho109; obtain ⟨Ao110, co110, eo110⟩ := Kd.R_slice HO238.out; subst eo110) | (go_at_call 10; (with_reducible refine (caulkerlaw10_small.calls k _ _ y236 false _ ?side1 ?side2 A5.out).mono ?_); (case side1 => repeat (first | exact (Kd.R_reads' HO238.out).2.2 | (with_reducible refine Kd.C_alloc ?_ _) | (with_reducible refine Kd.C_drewN ?_ _) | (with_reducible refine Kd.C_drew ?_))); (case side2 => exact (Kd.R_reads' HO238.out).2.1); rintro e w111 ⟨rfl, hb⟩; have n0_ := Aside0.mk (Kd.R_below (pxr HO238) hb); have n1_ := pxk BK233 hb; have n2_ := pxk BK234 hb; have n3_ := pxs HB hb; clear HO238; clear BK233; clear BK234; clear HB; have HO238 := n0_; have BK233 := n1_; have BK234 := n2_; have HB := n3_; clear n0_ n1_ n2_ n3_; (try clear hb); (try clear hb2); (try clear hk); (try clear hi)))
   repeat (go_quiet (first | ((with_reducible refine gate_dst (N := 2) rfl ?_); refine box_event ?hg (N := 2) ?hd (cs := #[.int .i64 a0_0, .string a0_1, .int .i64 a0_2, .string a0_3]) (t := 23) ?hr ?_; (case hd => rfl); (case hg => rfl); (case hr => first | (go_simp; done) | (go_simp; rfl)); intro gb233 hg w102 hbox hb; have n0_ := pxs HB hb; have n1_ := Aside0.mk (hbox); have n2_ := Aside0.mk ((by rw [hg]; exact (below_size (pxb HB)) : w.heap.size ≤ gb233)); have n3_ := Aside0.mk ((by rw [hg]; exact (below_size (pxb HB)) : w.heap.size ≤ gb233)); clear HB; have HB := n0_; have BK233 := n1_; have GW233 := n2_; have GE233 := n3_; clear n0_ n1_ n2_ n3_; clear hb hbox hg) | ((with_reducible refine gate_dst (N := 3) rfl ?_); refine box_event ?hg (N := 3) ?hd (cs := #[.int .i64 a1_0, .string a1_1, .int .i64 a1_2, .string a1_3]) (t := 23) ?hr ?_; (case hd => rfl); (case hg => rfl); (case hr => first | (go_simp; done) | (go_simp; rfl)); intro gb234 hg w103 hbox hb; have n0_ := pxk BK233 hb; have n1_ := pxs HB hb; have n2_ := Aside0.mk (hbox); have n3_ := Aside0.mk ((by rw [hg]; exact (below_size (pxb HB)) : w.heap.size ≤ gb234)); have n4_ := Aside0.mk ((by rw [hg]; exact (below_size (pxb HB)) : w.heap.size ≤ gb234)); have n5_ := Aside0.mk ((by rw [hg]; exact Nat.ne_of_lt (blk_lt (g := gb233) (o := .cells #[.int .i64 a0_0, .string a0_1, .int .i64 a0_2, .string a0_3] 23 (0, 0)) (pxq BK233)) : gb233 ≠ gb234)); have n6_ := Aside0.mk ((by rw [hg]; exact Nat.ne_of_gt (blk_lt (g := gb233) (o := .cells #[.int .i64 a0_0, .string a0_1, .int .i64 a0_2, .string a0_3] 23 (0, 0)) (pxq BK233)) : gb234 ≠ gb233)); clear BK233; clear HB; have BK233 := n0_; have HB := n1_; have BK234 := n2_; have GW234 := n3_; have GE234 := n4_; have NB233_234 := n5_; have NB234_233 := n6_; clear n0_ n1_ n2_ n3_ n4_ n5_ n6_; clear hb hbox hg) | (go_at_call 9; (with_reducible refine (caulkerlaw10_sorts.calls k  true _ A3.out).mono ?_); rintro e w104 ⟨rfl, hb⟩; have n0_ := pxk BK233 hb; have n1_ := pxk BK234 hb; have n2_ := pxs HB hb; clear BK233; clear BK234; clear HB; have BK233 := n0_; have BK234 := n1_; have HB := n2_; clear n0_ n1_ n2_; (try clear hb); (try clear hb2); (try clear hk); (try clear hi); have hnb105 := NB233_234.out; have hnc105 := NB234_233.out; have hcz106_0 : w104.cell? ⟨gb233, 0, none⟩ = some (.int .i64 a0_0) := (blk_cell BK233.out 0).trans rfl; have hcz106_1 : w104.cell? ⟨gb233, 1, none⟩ = some (.string a0_1) := (blk_cell BK233.out 1).trans rfl; have hcz106_2 : w104.cell? ⟨gb233, 2, none⟩ = some (.int .i64 a0_2) := (blk_cell BK233.out 2).trans rfl; have hcz106_3 : w104.cell? ⟨gb233, 3, none⟩ = some (.string a0_3) := (blk_cell BK233.out 3).trans rfl; have hfz106_0 := blk_frozen BK233.out 0; have hfz106_1 := blk_frozen BK233.out 1; have hfz106_2 := blk_frozen BK233.out 2; have hfz106_3 := blk_frozen BK233.out 3; have hcz107_0 : w104.cell? ⟨gb234, 0, none⟩ = some (.int .i64 a1_0) := (blk_cell BK234.out 0).trans rfl; have hcz107_1 : w104.cell? ⟨gb234, 1, none⟩ = some (.string a1_1) := (blk_cell BK234.out 1).trans rfl; have hcz107_2 : w104.cell? ⟨gb234, 2, none⟩ = some (.int .i64 a1_2) := (blk_cell BK234.out 2).trans rfl; have hcz107_3 : w104.cell? ⟨gb234, 3, none⟩ = some (.string a1_3) := (blk_cell BK234.out 3).trans rfl; have hfz107_0 := blk_frozen BK234.out 0; have hfz107_1 := blk_frozen BK234.out 1; have hfz107_2 := blk_frozen BK234.out 2; have hfz107_3 := blk_frozen BK234.out 3) | ((with_reducible refine gate_dst (N := 13) rfl ?_); refine Kd.R_lit k23 _ 23 ?hg (N := 13) ?hd (xs := ([(⟨a0_0, a0_1, a0_2, a0_3⟩ : S23), (⟨a1_0, a1_1, a1_2, a1_3⟩ : S23)] : List (S23))) (inner := [.int .i64 a0_0, .string a0_1, .int .i64 a0_2, .string a0_3, .int .i64 a1_0, .string a1_1, .int .i64 a1_2, .string a1_3]) (ok := fun _ => True) (okp := fun _ => True) ?hr ?hp (fun _ hk => hk) trivial (Below.refl _ _) (Nat.le_refl _) (by simp) ?_; (case hd => rfl); (case hg => rfl); (case hr => first | (go_simp; done) | (go_simp; rfl)); (case hp => exact (Reps.c4 (show Kd.M k23 _ _ _ (⟨a0_0, a0_1, a0_2, a0_3⟩ : S23) [.int .i64 a0_0, .string a0_1, .int .i64 a0_2, .string a0_3] from (k23_mkM _ _ _ (⟨a0_0, a0_1, a0_2, a0_3⟩ : S23) )) (Reps.c4 (show Kd.M k23 _ _ _ (⟨a1_0, a1_1, a1_2, a1_3⟩ : S23) [.int .i64 a1_0, .string a1_1, .int .i64 a1_2, .string a1_3] from (k23_mkM _ _ _ (⟨a1_0, a1_1, a1_2, a1_3⟩ : S23) )) (Reps.none _ _)))); intro v237 w108 ho109 hb hg_ hnew_; clear hg_ hnew_; (first | rw [← Ny236.out] at ho109 | (simp only [Int.reduceToNat] at ho109; rw [← Ny236.out] at ho109)); have n0_ := Aside0.mk (Kd.R_lower (Kd.R_newB (Kd.R_newB ho109 (g := gb233) (o := .cells #[.int .i64 a0_0, .string a0_1, .int .i64 a0_2, .string a0_3] 23 (0, 0)) (pxq BK233)) (g := gb234) (o := .cells #[.int .i64 a1_0, .string a1_1, .int .i64 a1_2, .string a1_3] 23 (0, 0)) (pxq BK234)) (below_size (pxb HB))); have n1_ := pxk BK233 hb; have n2_ := pxk BK234 hb; have n3_ := pxs HB hb; clear BK233; clear BK234; clear HB; have HO238 := n0_; have BK233 := n1_; have BK234 := n2_; have HB := n3_; clear n0_ n1_ n2_ n3_; clear hb ho109; obtain ⟨Ao110, co110, eo110⟩ := Kd.R_slice HO238.out; subst eo110) | (go_at_call 10; (with_reducible refine (caulkerlaw10_small.calls k _ _ y236 false _ ?side1 ?side2 A5.out).mono ?_); (case side1 => repeat (first | exact (Kd.R_reads' HO238.out).2.2 | (with_reducible refine Kd.C_alloc ?_ _) | (with_reducible refine Kd.C_drewN ?_ _) | (with_reducible refine Kd.C_drew ?_))); (case side2 => exact (Kd.R_reads' HO238.out).2.1); rintro e w111 ⟨rfl, hb⟩; have n0_ := Aside0.mk (Kd.R_below (pxr HO238) hb); have n1_ := pxk BK233 hb; have n2_ := pxk BK234 hb; have n3_ := pxs HB hb; clear HO238; clear BK233; clear BK234; clear HB; have HO238 := n0_; have BK233 := n1_; have BK234 := n2_; have HB := n3_; clear n0_ n1_ n2_ n3_; (try clear hb); (try clear hb2); (try clear hk); (try clear hi))); try go_wp2_with (first | ((with_reducible refine gate_dst (N := 2) rfl ?_); refine box_event ?hg (N := 2) ?hd (cs := #[.int .i64 a0_0, .string a0_1, .int .i64 a0_2, .string a0_3]) (t := 23) ?hr ?_; (case hd => rfl); (case hg => rfl); (case hr => first | (go_simp; done) | (go_simp; rfl)); intro gb233 hg w102 hbox hb; have n0_ := pxs HB hb; have n1_ := Aside0.mk (hbox); have n2_ := Aside0.mk ((by rw [hg]; exact (below_size (pxb HB)) : w.heap.size ≤ gb233)); have n3_ := Aside0.mk ((by rw [hg]; exact (below_size (pxb HB)) : w.heap.size ≤ gb233)); clear HB; have HB := n0_; have BK233 := n1_; have GW233 := n2_; have GE233 := n3_; clear n0_ n1_ n2_ n3_; clear hb hbox hg) | ((with_reducible refine gate_dst (N := 3) rfl ?_); refine box_event ?hg (N := 3) ?hd (cs := #[.int .i64 a1_0, .string a1_1, .int .i64 a1_2, .string a1_3]) (t := 23) ?hr ?_; (case hd => rfl); (case hg => rfl); (case hr => first | (go_simp; done) | (go_simp; rfl)); intro gb234 hg w103 hbox hb; have n0_ := pxk BK233 hb; have n1_ := pxs HB hb; have n2_ := Aside0.mk (hbox); have n3_ := Aside0.mk ((by rw [hg]; exact (below_size (pxb HB)) : w.heap.size ≤ gb234)); have n4_ := Aside0.mk ((by rw [hg]; exact (below_size (pxb HB)) : w.heap.size ≤ gb234)); have n5_ := Aside0.mk ((by rw [hg]; exact Nat.ne_of_lt (blk_lt (g := gb233) (o := .cells #[.int .i64 a0_0, .string a0_1, .int .i64 a0_2, .string a0_3] 23 (0, 0)) (pxq BK233)) : gb233 ≠ gb234)); have n6_ := Aside0.mk ((by rw [hg]; exact Nat.ne_of_gt (blk_lt (g := gb233) (o := .cells #[.int .i64 a0_0, .string a0_1, .int .i64 a0_2, .string a0_3] 23 (0, 0)) (pxq BK233)) : gb234 ≠ gb233)); clear BK233; clear HB; have BK233 := n0_; have HB := n1_; have BK234 := n2_; have GW234 := n3_; have GE234 := n4_; have NB233_234 := n5_; have NB234_233 := n6_; clear n0_ n1_ n2_ n3_ n4_ n5_ n6_; clear hb hbox hg) | (go_at_call 9; (with_reducible refine (caulkerlaw10_sorts.calls k  true _ A3.out).mono ?_); rintro e w104 ⟨rfl, hb⟩; have n0_ := pxk BK233 hb; have n1_ := pxk BK234 hb; have n2_ := pxs HB hb; clear BK233; clear BK234; clear HB; have BK233 := n0_; have BK234 := n1_; have HB := n2_; clear n0_ n1_ n2_; (try clear hb); (try clear hb2); (try clear hk); (try clear hi); have hnb105 := NB233_234.out; have hnc105 := NB234_233.out; have hcz106_0 : w104.cell? ⟨gb233, 0, none⟩ = some (.int .i64 a0_0) := (blk_cell BK233.out 0).trans rfl; have hcz106_1 : w104.cell? ⟨gb233, 1, none⟩ = some (.string a0_1) := (blk_cell BK233.out 1).trans rfl; have hcz106_2 : w104.cell? ⟨gb233, 2, none⟩ = some (.int .i64 a0_2) := (blk_cell BK233.out 2).trans rfl; have hcz106_3 : w104.cell? ⟨gb233, 3, none⟩ = some (.string a0_3) := (blk_cell BK233.out 3).trans rfl; have hfz106_0 := blk_frozen BK233.out 0; have hfz106_1 := blk_frozen BK233.out 1; have hfz106_2 := blk_frozen BK233.out 2; have hfz106_3 := blk_frozen BK233.out 3; have hcz107_0 : w104.cell? ⟨gb234, 0, none⟩ = some (.int .i64 a1_0) := (blk_cell BK234.out 0).trans rfl; have hcz107_1 : w104.cell? ⟨gb234, 1, none⟩ = some (.string a1_1) := (blk_cell BK234.out 1).trans rfl; have hcz107_2 : w104.cell? ⟨gb234, 2, none⟩ = some (.int .i64 a1_2) := (blk_cell BK234.out 2).trans rfl; have hcz107_3 : w104.cell? ⟨gb234, 3, none⟩ = some (.string a1_3) := (blk_cell BK234.out 3).trans rfl; have hfz107_0 := blk_frozen BK234.out 0; have hfz107_1 := blk_frozen BK234.out 1; have hfz107_2 := blk_frozen BK234.out 2; have hfz107_3 := blk_frozen BK234.out 3) | ((with_reducible refine gate_dst (N := 13) rfl ?_); refine Kd.R_lit k23 _ 23 ?hg (N := 13) ?hd (xs := ([(⟨a0_0, a0_1, a0_2, a0_3⟩ : S23), (⟨a1_0, a1_1, a1_2, a1_3⟩ : S23)] : List (S23))) (inner := [.int .i64 a0_0, .string a0_1, .int .i64 a0_2, .string a0_3, .int .i64 a1_0, .string a1_1, .int .i64 a1_2, .string a1_3]) (ok := fun _ => True) (okp := fun _ => True) ?hr ?hp (fun _ hk => hk) trivial (Below.refl _ _) (Nat.le_refl _) (by simp) ?_; (case hd => rfl); (case hg => rfl); (case hr => first | (go_simp; done) | (go_simp; rfl)); (case hp => exact (Reps.c4 (show Kd.M k23 _ _ _ (⟨a0_0, a0_1, a0_2, a0_3⟩ : S23) [.int .i64 a0_0, .string a0_1, .int .i64 a0_2, .string a0_3] from (k23_mkM _ _ _ (⟨a0_0, a0_1, a0_2, a0_3⟩ : S23) )) (Reps.c4 (show Kd.M k23 _ _ _ (⟨a1_0, a1_1, a1_2, a1_3⟩ : S23) [.int .i64 a1_0, .string a1_1, .int .i64 a1_2, .string a1_3] from (k23_mkM _ _ _ (⟨a1_0, a1_1, a1_2, a1_3⟩ : S23) )) (Reps.none _ _)))); intro v237 w108 ho109 hb hg_ hnew_; clear hg_ hnew_; (first | rw [← Ny236.out] at ho109 | (simp only [Int.reduceToNat] at ho109; rw [← Ny236.out] at ho109)); have n0_ := Aside0.mk (Kd.R_lower (Kd.R_newB (Kd.R_newB ho109 (g := gb233) (o := .cells #[.int .i64 a0_0, .string a0_1, .int .i64 a0_2, .string a0_3] 23 (0, 0)) (pxq BK233)) (g := gb234) (o := .cells #[.int .i64 a1_0, .string a1_1, .int .i64 a1_2, .string a1_3] 23 (0, 0)) (pxq BK234)) (below_size (pxb HB))); have n1_ := pxk BK233 hb; have n2_ := pxk BK234 hb; have n3_ := pxs HB hb; clear BK233; clear BK234; clear HB; have HO238 := n0_; have BK233 := n1_; have BK234 := n2_; have HB := n3_; clear n0_ n1_ n2_ n3_; clear hb ho109; obtain ⟨Ao110, co110, eo110⟩ := Kd.R_slice HO238.out; subst eo110) | (go_at_call 10; (with_reducible refine (caulkerlaw10_small.calls k _ _ y236 false _ ?side1 ?side2 A5.out).mono ?_); (case side1 => repeat (first | exact (Kd.R_reads' HO238.out).2.2 | (with_reducible refine Kd.C_alloc ?_ _) | (with_reducible refine Kd.C_drewN ?_ _) | (with_reducible refine Kd.C_drew ?_))); (case side2 => exact (Kd.R_reads' HO238.out).2.1); rintro e w111 ⟨rfl, hb⟩; have n0_ := Aside0.mk (Kd.R_below (pxr HO238) hb); have n1_ := pxk BK233 hb; have n2_ := pxk BK234 hb; have n3_ := pxs HB hb; clear HO238; clear BK233; clear BK234; clear HB; have HO238 := n0_; have BK233 := n1_; have BK234 := n2_; have HB := n3_; clear n0_ n1_ n2_ n3_; (try clear hb); (try clear hb2); (try clear hk); (try clear hi))))
   go_ret
   exact ⟨by first | rfl | (simp [errW_none, errW_some] <;> rfl) | (simp [*, errW_none, errW_some] <;> rfl), pxb HB⟩
 ·replace c4 := Bool.eq_false_iff.mpr c4
  subst c4
  have H1 : (none) = some r := by rw [if_neg (show ¬ (false = true) by decide)] at H; exact H
  clear H
  have H := H1
  clear H1
  exact absurd H (by simp)

/-- THE ONE PURE STATEMENT of caulkerlaw10_KindPairs. -/
def caulkerlaw10_KindPairs.Pure : Prop := ∀ (a0_0 : Int) (a0_1 : ByteArray) (a0_2 : Int) (a0_3 : ByteArray) (a1_0 : Int) (a1_1 : ByteArray) (a1_2 : Int) (a1_3 : ByteArray), good23 ((⟨a0_0, a0_1, a0_2, a0_3⟩ : S23)) → good23 ((⟨a1_0, a1_1, a1_2, a1_3⟩ : S23)) → ∃ k, caulkerlaw10_KindPairs.f k a0_0 a0_1 a0_2 a0_3 a1_0 a1_1 a1_2 a1_3 = some true

end Go.Proofs.Ytljchkghnmnpgaa.X
