/- What the program's functions answer, as Lean functions, and that each call does just that; no condition. Written by a program (px.py) out of the translation. -/
import Derived.Test.YtimhbepecnmjeaaDoorX0
import Derived.Test.YtimhbepecnmjeaaDoorX19
import Derived.Test.YtimhbepecnmjeaaDoorX32
import Derived.Test.YtimhbepecnmjeaaDoorX33
import Derived.Test.YtimhbepecnmjeaaDoorShort2
namespace Go.Proofs.YtimhbepecnmjeaaDoor.X
open Go.RowKit Go.Proofs.YtimhbepecnmjeaaDoorW.PrintWords Go.Proofs.YtimhbepecnmjeaaDoorW.PrintLast Go.Proofs.YtimhbepecnmjeaaDoorW.PrintMore
attribute [local go_sem] max2_int min2_int max_two min_two max_three min_three max_four min_four   -- for this text's walks alone
set_option linter.unusedVariables false
set_option linter.unusedSimpArgs false

/-! ### span_Gaps: function 14 -/
mutual
def span_Gaps.j0 : Nat → Int → List (S24) → Bool → Option ((List (S24)) × Int)
 | 0, _, _, _ => none
 | k + 1, x0, x1, x18 => if x18 = true then (some (([] : List (S24)), 1)) else (span_Gaps.l0 k x0 x1 0 x1 (x1.length : Int) 0)
def span_Gaps.l0 : Nat → Int → List (S24) → Int → List (S24) → Int → Int → Option ((List (S24)) × Int)
 | 0, _, _, _, _, _, _ => none
 | k + 1, x0, x1, x7, x19, x20, x21 => if x21 < x20 then (if 0 ≤ x21 then (if x21 < (x19.length : Int) then ((span_Check.f ((rd_T24 x19 x21).f0) ((rd_T24 x19 x21).f1) x0).bind fun t180 => (if t180 = 0 then (span_Gaps.l0 k x0 x1 x7 x19 x20 (wrap64 (x21 + 1))) else (some (([] : List (S24)), t180)))) else (none)) else (none)) else ((span_Sorted.f k x1).bind fun t181 => (if t181 = true then ((api_Span.f x1).bind fun t182 => (if t182.length < 8796093022208 then ((some (t182 ++ [(⟨x0, x0⟩ : S24)] : List (S24))).bind fun y185 => (span_Gaps.l1 k ([] : List (S24)) x7 y185 (y185.length : Int) 0)) else (none))) else (some (([] : List (S24)), 7))))
def span_Gaps.l1 : Nat → List (S24) → Int → List (S24) → Int → Int → Option ((List (S24)) × Int)
 | 0, _, _, _, _, _ => none
 | k + 1, x6, x7, x41, x42, x43 => if x43 < x42 then (if 0 ≤ x43 then (if x43 < (x41.length : Int) then (if x7 < ((rd_T24 x41 x43).f0) then (if x6.length < 8796093022208 then (span_Gaps.l1 k (x6 ++ [(⟨x7, (rd_T24 x41 x43).f0⟩ : S24)]) ((rd_T24 x41 x43).f1) x41 x42 (wrap64 (x43 + 1))) else (none)) else (span_Gaps.l1 k x6 ((rd_T24 x41 x43).f1) x41 x42 (wrap64 (x43 + 1)))) else (none)) else (none)) else (some (x6, 0))
end
def span_Gaps.f (k : Nat) (a0 : Int) (l1 : List (S24)) : Option ((List (S24)) × Int) := if a0 < 0 then (span_Gaps.j0 k a0 l1 true) else (span_Gaps.j0 k a0 l1 (decide (a0 > 65536)))
theorem span_Gaps.mono_l : ∀ k, (∀ y0 y1 y2, LeO (span_Gaps.j0 k y0 y1 y2) (span_Gaps.j0 (k + 1) y0 y1 y2)) ∧ (∀ y0 y1 y2 y3 y4 y5, LeO (span_Gaps.l0 k y0 y1 y2 y3 y4 y5) (span_Gaps.l0 (k + 1) y0 y1 y2 y3 y4 y5)) ∧ (∀ y0 y1 y2 y3 y4, LeO (span_Gaps.l1 k y0 y1 y2 y3 y4) (span_Gaps.l1 (k + 1) y0 y1 y2 y3 y4))
 | 0 => ⟨fun _ _ _ r h => by simp [span_Gaps.j0] at h, fun _ _ _ _ _ _ r h => by simp [span_Gaps.l0] at h, fun _ _ _ _ _ r h => by simp [span_Gaps.l1] at h⟩
 | k + 1 => by
  obtain ⟨ih0, ih1, ih2⟩ := span_Gaps.mono_l k
  refine ⟨?_, ?_, ?_⟩
  ·intro y0 y1 y2
   unfold span_Gaps.j0
   repeat' first
   | (with_reducible exact ih0 _ _ _)
   | (with_reducible exact ih1 _ _ _ _ _ _)
   | (with_reducible exact ih2 _ _ _ _ _)
   | (with_reducible exact span_Sorted.mono _ _)
   | (with_reducible exact LeO.refl _)
   | (with_reducible exact LeO.none _)
   | (with_reducible refine LeO.ite ?_ ?_)
   | (with_reducible refine LeO.bind ?_ (fun _ => ?_))
   | exact ih0 _ _ _
   | exact ih1 _ _ _ _ _ _
   | exact ih2 _ _ _ _ _
   | exact span_Sorted.mono _ _
   | exact LeO.none _
   | refine LeO.ite ?_ ?_
   | refine LeO.bind ?_ (fun _ => ?_)
  ·intro y0 y1 y2 y3 y4 y5
   unfold span_Gaps.l0
   repeat' first
   | (with_reducible exact ih0 _ _ _)
   | (with_reducible exact ih1 _ _ _ _ _ _)
   | (with_reducible exact ih2 _ _ _ _ _)
   | (with_reducible exact span_Sorted.mono _ _)
   | (with_reducible exact LeO.refl _)
   | (with_reducible exact LeO.none _)
   | (with_reducible refine LeO.ite ?_ ?_)
   | (with_reducible refine LeO.bind ?_ (fun _ => ?_))
   | exact ih0 _ _ _
   | exact ih1 _ _ _ _ _ _
   | exact ih2 _ _ _ _ _
   | exact span_Sorted.mono _ _
   | exact LeO.none _
   | refine LeO.ite ?_ ?_
   | refine LeO.bind ?_ (fun _ => ?_)
  ·intro y0 y1 y2 y3 y4
   unfold span_Gaps.l1
   repeat' first
   | (with_reducible exact ih0 _ _ _)
   | (with_reducible exact ih1 _ _ _ _ _ _)
   | (with_reducible exact ih2 _ _ _ _ _)
   | (with_reducible exact span_Sorted.mono _ _)
   | (with_reducible exact LeO.refl _)
   | (with_reducible exact LeO.none _)
   | (with_reducible refine LeO.ite ?_ ?_)
   | (with_reducible refine LeO.bind ?_ (fun _ => ?_))
   | exact ih0 _ _ _
   | exact ih1 _ _ _ _ _ _
   | exact ih2 _ _ _ _ _
   | exact span_Sorted.mono _ _
   | exact LeO.none _
   | refine LeO.ite ?_ ?_
   | refine LeO.bind ?_ (fun _ => ?_)
theorem span_Gaps.mono : ∀ a0 a1 k, LeO (span_Gaps.f k a0 a1) (span_Gaps.f (k + 1) a0 a1) := by
 intro a0 a1 k
 obtain ⟨ih0, ih1, ih2⟩ := span_Gaps.mono_l k
 unfold span_Gaps.f
 repeat' first
   | (with_reducible exact ih0 _ _ _)
   | (with_reducible exact ih1 _ _ _ _ _ _)
   | (with_reducible exact ih2 _ _ _ _ _)
   | (with_reducible exact span_Sorted.mono _ _)
   | (with_reducible exact LeO.refl _)
   | (with_reducible exact LeO.none _)
   | (with_reducible refine LeO.ite ?_ ?_)
   | (with_reducible refine LeO.bind ?_ (fun _ => ?_))
   | exact ih0 _ _ _
   | exact ih1 _ _ _ _ _ _
   | exact ih2 _ _ _ _ _
   | exact span_Sorted.mono _ _
   | exact LeO.none _
   | refine LeO.ite ?_ ?_
   | refine LeO.bind ?_ (fun _ => ?_)
set_option maxHeartbeats 8000000 in
set_option maxRecDepth 100000 in
theorem span_Gaps.calls (k : Nat) (a0 : Int) (A1 : Option Addr) (c1 : Nat) (l1 : List (S24)) (r1 : List (S24)) (r2 : Int) (w : World) (hr1 : Kd.C k24 w A1 l1.length l1) (hc1 : l1.length ≤ c1) (h : span_Gaps.f k a0 l1 = some (r1, r2)) :
  Calls Tryd.prog 14 #[.int .i64 a0, .slice A1 l1.length c1] w fun e w' => ∃ v0_ : Value, e = .returned (.tuple #[v0_, .int .i64 r2]) ∧ Kd.R k24 24 w' w.heap.size (fun _ => True) v0_ r1 ∧ Below w.heap.size w w' := by
 have hu24 := Tryd.underlying24
 have HR1 := Aside0.mk hr1
 have HC1 := Aside0.mk hc1
 clear hr1 hc1
 have HB := Aside0.mk (Below.refl w.heap.size w)
 have H : (if a0 < 0 then (span_Gaps.j0 k a0 l1 true) else (span_Gaps.j0 k a0 l1 (decide (a0 > 65536)))) = some (r1, r2) := h
 clear h
 have HC3 := Aside0.mk H
 clear H
 go_enter Tryd.func14, Tryd.ntmps14
 go_upto_region 1 with (fail)
 go_cut [18] (fun v18 wc => ∃ (kq : Nat) (x18_2 : Bool), v18 = .bool x18_2 ∧ Aside0 (span_Gaps.j0 kq a0 l1 x18_2 = some (r1, r2)) ∧ Aside0 (kq ≤ k) ∧ Aside0 (Below w.heap.size w wc))
 case first =>
  have H := HC3.out
  clear HC3
  by_cases c4 : a0 < 0
  ·rw [if_pos c4] at H
   have c4b0 : decide (a0 < 0) = true := decide_eq_true c4
   clear c4
   (first | rw [c4b0] | (simp only [i64_w, i32_w]; rw [c4b0]) | skip)
   have H' := Aside0.mk H
   clear H
   go_wp2
   go_meet
   case rel => exact ⟨_, (true), (by first | rfl | (simp; done) | (simp [*]; done)), H', ⟨by first | omega | exact Nat.le_refl _⟩, ⟨pxb HB⟩⟩
  ·rw [if_neg c4] at H
   have c4b0 : decide (a0 < 0) = false := decide_eq_false c4
   clear c4
   (first | rw [c4b0] | (simp only [i64_w, i32_w]; rw [c4b0]) | skip)
   have H' := Aside0.mk H
   clear H
   go_wp2
   go_meet
   case rel => exact ⟨_, (decide (a0 > 65536)), (by first | rfl | (simp; done) | (simp [*]; done)), H', ⟨by first | omega | exact Nat.le_refl _⟩, ⟨pxb HB⟩⟩
 case rest =>
  clear HC3
  (try clear c1); (try clear p2); (try clear c4); (try clear c4b0)
  obtain ⟨kq, x18_2, rfl, HA, HJ2, HB⟩ := hcut
  cases kq with
  | zero => exact absurd HA.out (by simp [span_Gaps.j0])
  | succ kj2 =>
   have H := HA.out
   clear HA
   simp only [span_Gaps.j0] at H
   by_cases c5 : x18_2 = true
   ·subst c5
    have H1 : (some (([] : List (S24)), 1)) = some (r1, r2) := by rw [if_pos rfl] at H; exact H
    clear H
    have H := H1
    clear H1
    simp only [Option.some.injEq, Prod.mk.injEq] at H
    obtain ⟨rfl, rfl⟩ := H
    go_wp2
    go_ret2
    exact ⟨_, by first | rfl | (simp [errW_none, errW_some] <;> rfl) | (simp [*, errW_none, errW_some] <;> rfl), by first | exact Kd.R_nil _ _ _ _ _ | exact Kd.N_nil _ _ _ _ _ | exact Kd.V_nil _ _ _ _ _ | exact Kd.Q_nil _ _ _ _ _ | exact Kd.S_nil _ _ _ _ _, pxb HB⟩
   ·replace c5 := Bool.eq_false_iff.mpr c5
    subst c5
    have H1 : (span_Gaps.l0 kj2 a0 l1 0 l1 (l1.length : Int) 0) = some (r1, r2) := by rw [if_neg (show ¬ (false = true) by decide)] at H; exact H
    clear H
    have H := H1
    clear H1
    have H' := Aside0.mk H
    clear H
    go_wp2
    go_loopg [21] kj2 (fun kq v21 w' => ∃ (x21_2 : Int), v21 = .int .i64 x21_2 ∧ Aside0 (span_Gaps.l0 kq a0 l1 0 l1 (l1.length : Int) x21_2 = some (r1, r2)) ∧ Aside0 (kq ≤ kj2) ∧ Aside0 (Below w.heap.size w w'))
    case atStart => exact ⟨(0), (by first | rfl | (simp; done) | (simp [*]; done)), H', ⟨Nat.le_refl _⟩, ⟨pxb HB⟩⟩
    case round =>
     clear H'
     (try clear c1); (try clear p2); (try clear c4); (try clear c4b0); (try clear c5)
     obtain ⟨x21_2, rfl, HA, HK2, HB⟩ := hrel
     cases gk with
     | zero => exact absurd HA.out (by simp [span_Gaps.l0])
     | succ k2 =>
      have H := HA.out
      clear HA
      simp only [span_Gaps.l0] at H
      by_cases c6 : x21_2 < (l1.length : Int)
      ·rw [if_pos c6] at H
       have c6b0 : decide (x21_2 < (l1.length : Int)) = true := decide_eq_true c6
       clear c6
       by_cases c7 : 0 ≤ x21_2
       ·rw [if_pos c7] at H
        have c7b0 : decide (0 ≤ x21_2) = true := decide_eq_true c7
        clear c7
        by_cases c8 : x21_2 < (l1.length : Int)
        ·rw [if_pos c8] at H
         have c8b0 : decide (x21_2 < (l1.length : Int)) = true := decide_eq_true c8
         clear c8
         replace H := Option.bind_eq_some_iff.mp H
         obtain ⟨t180, A90, H⟩ := H
         replace H : (if t180 = 0 then (span_Gaps.l0 k2 a0 l1 0 l1 (l1.length : Int) (wrap64 (x21_2 + 1))) else (some (([] : List (S24)), t180))) = some (r1, r2) := H
         have A9 := Aside0.mk A90
         clear A90
         by_cases c10 : t180 = 0
         ·rw [if_pos c10] at H
          have c10b0 : (t180 == 0) = true := beq_iff_eq.mpr c10
          have c10b1 : (t180 != 0) = false := bne_eq_false_iff_eq.mpr c10
          clear c10
          have H' := Aside0.mk H
          clear H
          have p178 : 0 ≤ (x21_2 : Int) := pxd
          have q178 : x21_2 < (l1.length : Int) := pxd
          obtain ⟨ad178, e178, hx178_0, hx178_1⟩ := at_T24 HR1.out x21_2 p178 q178
          cases e178
          replace hx178_0 := (HB.out.cell (World.block_lt_of_cell? w _ hx178_0)).trans hx178_0
          replace hx178_1 := (HB.out.cell (World.block_lt_of_cell? w _ hx178_1)).trans hx178_1
          replace p178 := eq_true p178
          replace q178 := eq_true q178
          go_wp2_with (first | ((with_reducible refine gate_dst (N := 9) rfl ?_); refine box_event ?hg (N := 9) ?hd (cs := #[.int .i64 0, .int .i64 0]) (t := 24) ?hr ?_; (case hd => rfl); (case hg => rfl); (case hr => first | (go_simp; done) | (go_simp; rfl)); intro gb179 hg w11 hbox hb; have BK179 := Aside0.mk (hbox); have GW179 := pxw HB hg; have GE179 := pxw HB hg; replace HB := pxs HB hb; clear hb hbox hg; obtain ⟨hcz12_0, hcz12_1, hfz12_0, hfz12_1⟩ := pxf2 BK179) | ((with_reducible refine gate_callee (f := 19) rfl ?_); refine goesL_ (some 27) rfl rfl Tryd.func19 (by kernel_rfl) rfl #[.agg #[.int .i64 ((rd_T24 l1 x21_2).f0), .int .i64 ((rd_T24 l1 x21_2).f1)], .int .i64 a0] rfl (by (try simp only [List.map_toArray, List.map_cons, List.map_nil]); first | done | rfl | (simp only [List.length_drop, List.length_take]; rfl)) ?_; (with_reducible refine (span_Check.calls ((rd_T24 l1 x21_2).f0) ((rd_T24 l1 x21_2).f1) a0 t180 _ A9.out).mono ?_); rintro e w13 ⟨rfl, hb⟩; refine ⟨_, rfl, ?_⟩; replace BK179 := Aside0.mk (blk_below (g := gb179) (o := .cells #[.int .i64 ((rd_T24 l1 x21_2).f0), .int .i64 ((rd_T24 l1 x21_2).f1)] 24 (0, 0)) (pxp BK179) hb); replace HB := pxs HB hb; (try clear hb); (try clear hb2); (try clear hk); (try clear hi)))
          go_roundg k2
          case measure => have := HJ2.out; have := HK2.out; omega
          case rel => exact ⟨(wrap64 (x21_2 + 1)), (by first | rfl | (simp; done) | (simp [*]; done)), H', ⟨by have := HJ2.out; have := HK2.out; omega⟩, ⟨pxb HB⟩⟩
         ·rw [if_neg c10] at H
          have c10b0 : (t180 == 0) = false := beq_eq_false_iff_ne.mpr c10
          have c10b1 : (t180 != 0) = true := bne_iff_ne.mpr c10
          simp only [Option.some.injEq, Prod.mk.injEq] at H
          obtain ⟨rfl, rfl⟩ := H
          have p178 : 0 ≤ (x21_2 : Int) := pxd
          have q178 : x21_2 < (l1.length : Int) := pxd
          obtain ⟨ad178, e178, hx178_0, hx178_1⟩ := at_T24 HR1.out x21_2 p178 q178
          cases e178
          replace hx178_0 := (HB.out.cell (World.block_lt_of_cell? w _ hx178_0)).trans hx178_0
          replace hx178_1 := (HB.out.cell (World.block_lt_of_cell? w _ hx178_1)).trans hx178_1
          replace p178 := eq_true p178
          replace q178 := eq_true q178
          go_wp2_with (first | ((with_reducible refine gate_dst (N := 9) rfl ?_); refine box_event ?hg (N := 9) ?hd (cs := #[.int .i64 0, .int .i64 0]) (t := 24) ?hr ?_; (case hd => rfl); (case hg => rfl); (case hr => first | (go_simp; done) | (go_simp; rfl)); intro gb179 hg w14 hbox hb; have BK179 := Aside0.mk (hbox); have GW179 := pxw HB hg; have GE179 := pxw HB hg; replace HB := pxs HB hb; clear hb hbox hg; obtain ⟨hcz15_0, hcz15_1, hfz15_0, hfz15_1⟩ := pxf2 BK179) | ((with_reducible refine gate_callee (f := 19) rfl ?_); refine goesL_ (some 27) rfl rfl Tryd.func19 (by kernel_rfl) rfl #[.agg #[.int .i64 ((rd_T24 l1 x21_2).f0), .int .i64 ((rd_T24 l1 x21_2).f1)], .int .i64 a0] rfl (by (try simp only [List.map_toArray, List.map_cons, List.map_nil]); first | done | rfl | (simp only [List.length_drop, List.length_take]; rfl)) ?_; (with_reducible refine (span_Check.calls ((rd_T24 l1 x21_2).f0) ((rd_T24 l1 x21_2).f1) a0 t180 _ A9.out).mono ?_); rintro e w16 ⟨rfl, hb⟩; refine ⟨_, rfl, ?_⟩; replace BK179 := Aside0.mk (blk_below (g := gb179) (o := .cells #[.int .i64 ((rd_T24 l1 x21_2).f0), .int .i64 ((rd_T24 l1 x21_2).f1)] 24 (0, 0)) (pxp BK179) hb); replace HB := pxs HB hb; (try clear hb); (try clear hb2); (try clear hk); (try clear hi)))
          go_ret2
          exact ⟨_, by first | rfl | (simp [errW_none, errW_some] <;> rfl) | (simp [*, errW_none, errW_some] <;> rfl), by first | exact Kd.R_nil _ _ _ _ _ | exact Kd.N_nil _ _ _ _ _ | exact Kd.V_nil _ _ _ _ _ | exact Kd.Q_nil _ _ _ _ _ | exact Kd.S_nil _ _ _ _ _, pxb HB⟩
        ·rw [if_neg c8] at H
         exact absurd H (by simp)
       ·rw [if_neg c7] at H
        exact absurd H (by simp)
      ·rw [if_neg c6] at H
       have c6b0 : decide (x21_2 < (l1.length : Int)) = false := decide_eq_false c6
       clear c6
       replace H := Option.bind_eq_some_iff.mp H
       obtain ⟨t181, A170, H⟩ := H
       replace H : (if t181 = true then ((api_Span.f l1).bind fun t182 => (if t182.length < 8796093022208 then ((some (t182 ++ [(⟨a0, a0⟩ : S24)] : List (S24))).bind fun y185 => (span_Gaps.l1 k2 ([] : List (S24)) 0 y185 (y185.length : Int) 0)) else (none))) else (some (([] : List (S24)), 7))) = some (r1, r2) := H
       have A17 := Aside0.mk A170
       clear A170
       by_cases c18 : t181 = true
       ·subst c18
        have H1 : ((api_Span.f l1).bind fun t182 => (if t182.length < 8796093022208 then ((some (t182 ++ [(⟨a0, a0⟩ : S24)] : List (S24))).bind fun y185 => (span_Gaps.l1 k2 ([] : List (S24)) 0 y185 (y185.length : Int) 0)) else (none))) = some (r1, r2) := by rw [if_pos rfl] at H; exact H
        clear H
        have H := H1
        clear H1
        replace H := Option.bind_eq_some_iff.mp H
        obtain ⟨t182, A190, H⟩ := H
        replace H : (if t182.length < 8796093022208 then ((some (t182 ++ [(⟨a0, a0⟩ : S24)] : List (S24))).bind fun y185 => (span_Gaps.l1 k2 ([] : List (S24)) 0 y185 (y185.length : Int) 0)) else (none)) = some (r1, r2) := H
        have A19 := Aside0.mk A190
        clear A190
        by_cases c20 : t182.length < 8796093022208
        ·rw [if_pos c20] at H
         have LMc20 := Aside0.mk c20
         clear c20
         obtain ⟨y185, hy185⟩ : ∃ y_ : List (S24), y_ = (t182 ++ [(⟨a0, a0⟩ : S24)]) := ⟨_, rfl⟩
         replace H : (span_Gaps.l1 k2 ([] : List (S24)) 0 y185 (y185.length : Int) 0) = some (r1, r2) := by first | (rw [hy185]; with_reducible exact H) | (have H2_ := (Option.bind_some _ _).symm.trans H; rw [hy185]; with_reducible exact H2_) | (have H2_ := (Option.bind_some _ _).symm.trans H; with_reducible exact H2_) | with_reducible exact H | (rw [hy185]; exact H) | exact H
         have Ny185 := Aside0.mk hy185
         clear hy185
         have H' := Aside0.mk H
         clear H
         go_wp2_with (first | ((with_reducible refine gate_callee (f := 32) rfl ?_); refine goesL_ (some 33) rfl rfl Tryd.func32 (by kernel_rfl) rfl #[.slice A1 l1.length c1] rfl (by (try simp only [List.map_toArray, List.map_cons, List.map_nil]); first | done | rfl | (simp only [List.length_drop, List.length_take]; rfl)) ?_; (with_reducible refine (span_Sorted.calls k2 _ _ l1 true _ ?side1 ?side2 A17.out).mono ?_); (case side1 => exact pxc HR1 HB); (case side2 => exact HC1.out); rintro e w21 ⟨rfl, hb⟩; refine ⟨_, rfl, ?_⟩; replace HB := pxs HB hb; (try clear hb); (try clear hb2); (try clear hk); (try clear hi)) | ((with_reducible refine gate_callee (f := 33) rfl ?_); refine goesL_ (some 36) rfl rfl Tryd.func33 (by kernel_rfl) rfl #[.slice A1 l1.length c1] rfl (by (try simp only [List.map_toArray, List.map_cons, List.map_nil]); first | done | rfl | (simp only [List.length_drop, List.length_take]; rfl)) ?_; (with_reducible refine (api_Span.calls _ _ l1 t182 _ ?side1 ?side2 A19.out).mono ?_); (case side1 => exact pxc HR1 HB); (case side2 => exact HC1.out); rintro e w22 ⟨v183, rfl, ho0, hb⟩; refine ⟨_, rfl, ?_⟩; have HO184 := Aside0.mk (Kd.R_lower ho0 (below_size (pxb HB))); replace HB := pxs HB hb; (try clear hb); (try clear hb2); (try clear hk); (try clear hi); (try clear ho0)) | ((with_reducible refine gate_builtin (b := .append) (xs := #[.tmp 36, .tmp 40]) rfl ?_); at_builtin; refine Kd.R_append k24 (w0 := w) w.heap.size rfl (.tmp 36) (.tmp 40) 22 24 (.agg #[(.int .i64 0), (.int .i64 0)]) 16 rfl Tryd.underlying22 info24 rfl (by decide) (by omega) v183 t182 (⟨a0, a0⟩ : S24) [.int .i64 a0, .int .i64 a0] (fun _ => True) (fun _ => False) rfl rfl ?aP (fun _ hk => hk.elim) ?aF ?aO ?aB ?aS ?aL ?_; (case aP => exact k24_mkM _ _ _ (⟨a0, a0⟩ : S24)); (case aB => exact (pxb HB)); (case aF => exact (fun _ _ => trivial)); (case aO => exact (pxr HO184)); (case aS => exact (below_size (pxb HB))); (case aL => have := LMc20.out; omega); intro v186 w23 ho hb hg hat; rw [← Ny185.out] at ho; have n0_ := Aside0.mk (hb); have n1_ := Aside0.mk (ho); clear HB; clear HO184; have HB := n0_; have HO187 := n1_; clear n0_ n1_; clear ho hb hg hat; obtain ⟨Ao24, co24, eo24⟩ := Kd.R_slice HO187.out; subst eo24))
         go_loopg [6, 7, 43] k2 (fun kq v6 v7 v43 w' => ∃ (x6_3 : List (S24)) (x7_3 : Int) (x43_3 : Int), v7 = .int .i64 x7_3 ∧ v43 = .int .i64 x43_3 ∧ Aside0 (span_Gaps.l1 kq x6_3 x7_3 y185 (y185.length : Int) x43_3 = some (r1, r2)) ∧ Aside0 (kq ≤ k2) ∧ Aside0 (Kd.R k24 24 w' w.heap.size (fun k_ => some k_ ≠ ((.slice Ao24 y185.length co24) : Value).ownBlock) v6 x6_3) ∧ Aside0 (Kd.R k24 24 w' w.heap.size (fun k_ => some k_ ≠ (v6 : Value).ownBlock) (.slice Ao24 y185.length co24) y185) ∧ Aside0 (Below w.heap.size w w'))
         case atStart => exact ⟨(([] : List (S24))), (0), (0), (by first | rfl | (simp; done) | (simp [*]; done)), (by first | rfl | (simp; done) | (simp [*]; done)), H', ⟨Nat.le_refl _⟩, ⟨by first | exact Kd.R_nil _ _ _ _ _ | exact Kd.N_nil _ _ _ _ _ | exact Kd.V_nil _ _ _ _ _ | exact Kd.Q_nil _ _ _ _ _ | exact Kd.S_nil _ _ _ _ _⟩, ⟨by (with_reducible repeat (first | apply Kd.R_alloc | apply Kd.R_drewN | apply Kd.R_drew)); exact Kd.R_mono HO187.out (fun _ hk => (by simp [Value.ownBlock]))⟩, ⟨pxb HB⟩⟩
         case round =>
          clear H'
          (try clear c1); (try clear p1); (try clear q1); (try clear hx1); (try clear c2); (try clear p2); (try clear c3); (try clear c4); (try clear c4b0); (try clear c5); (try clear c6); (try clear c6b0); (try clear p6); (try clear c7); (try clear c7b0); (try clear c8); (try clear c8b0); (try clear c10); (try clear c10b0); (try clear c10b1); (try clear c14); (try clear p17); (try clear q17); (try clear hx17); (try clear c18); (try clear c19); (try clear c20); (try clear hcz12_0 hcz12_1 hfz12_0 hfz12_1); (try clear hcz15_0 hcz15_1 hfz15_0 hfz15_1); (try clear hx178_0); (try clear hx178_1); (try clear p178); (try clear q178)
          obtain ⟨x6_3, x7_3, x43_3, rfl, rfl, HA, HK3, HO_6, HO_41, HB⟩ := hrel
          cases gk with
          | zero => exact absurd HA.out (by simp [span_Gaps.l1])
          | succ k3 =>
           have H := HA.out
           clear HA
           simp only [span_Gaps.l1] at H
           by_cases c25 : x43_3 < (y185.length : Int)
           ·rw [if_pos c25] at H
            have c25b0 : decide (x43_3 < (y185.length : Int)) = true := decide_eq_true c25
            clear c25
            by_cases c26 : 0 ≤ x43_3
            ·rw [if_pos c26] at H
             have c26b0 : decide (0 ≤ x43_3) = true := decide_eq_true c26
             clear c26
             by_cases c27 : x43_3 < (y185.length : Int)
             ·rw [if_pos c27] at H
              have c27b0 : decide (x43_3 < (y185.length : Int)) = true := decide_eq_true c27
              clear c27
              by_cases c28 : x7_3 < ((rd_T24 y185 x43_3).f0)
              ·rw [if_pos c28] at H
               have c28b0 : decide (x7_3 < ((rd_T24 y185 x43_3).f0)) = true := decide_eq_true c28
               clear c28
               by_cases c29 : x6_3.length < 8796093022208
               ·rw [if_pos c29] at H
                have LMc29 := Aside0.mk c29
                clear c29
                obtain ⟨y190, hy190⟩ : ∃ y_ : List (S24), y_ = (x6_3 ++ [(⟨x7_3, (rd_T24 y185 x43_3).f0⟩ : S24)]) := ⟨_, rfl⟩
                replace H : (span_Gaps.l1 k3 y190 ((rd_T24 y185 x43_3).f1) y185 (y185.length : Int) (wrap64 (x43_3 + 1))) = some (r1, r2) := by first | (rw [hy190]; with_reducible exact H) | (have H2_ := (Option.bind_some _ _).symm.trans H; rw [hy190]; with_reducible exact H2_) | (have H2_ := (Option.bind_some _ _).symm.trans H; with_reducible exact H2_) | with_reducible exact H | (rw [hy190]; exact H) | exact H
                have Ny190 := Aside0.mk hy190
                clear hy190
                have H' := Aside0.mk H
                clear H
                have p188 : 0 ≤ (x43_3 : Int) := pxd
                have q188 : x43_3 < (y185.length : Int) := pxd
                obtain ⟨ad188, e188, hx188_0, hx188_1⟩ := at_T24 (Kd.R_reads' HO_41.out).2.2 x43_3 p188 q188
                cases e188
                replace p188 := eq_true p188
                replace q188 := eq_true q188
                go_wp2_with (first | ((with_reducible refine gate_dst (N := 12) rfl ?_); refine box_event ?hg (N := 12) ?hd (cs := #[.int .i64 0, .int .i64 0]) (t := 24) ?hr ?_; (case hd => rfl); (case hg => rfl); (case hr => first | (go_simp; done) | (go_simp; rfl)); intro gb189 hg w30 hbox hb; have BK189 := Aside0.mk (hbox); have GW189 := pxw HB hg; have GE189 := pxw HB hg; replace HO_6 := Aside0.mk (Kd.R_below (Kd.R_elderB (pxr HO_6) gb189 (Nat.le_of_eq hg.symm)) hb); replace HO_41 := Aside0.mk (Kd.R_below (Kd.R_elderB (pxr HO_41) gb189 (Nat.le_of_eq hg.symm)) hb); replace HB := pxs HB hb; clear hb hbox hg; obtain ⟨hcz31_0, hcz31_1, hfz31_0, hfz31_1⟩ := pxf2 BK189) | ((with_reducible refine gate_builtin (b := .append) (xs := #[.tmp 51, .tmp 56]) rfl ?_); at_builtin; refine Kd.R_append k24 (w0 := w) w.heap.size rfl (.tmp 51) (.tmp 56) 22 24 (.agg #[(.int .i64 0), (.int .i64 0)]) 16 rfl Tryd.underlying22 info24 rfl (by decide) (by omega) u6 x6_3 (⟨x7_3, (rd_T24 y185 x43_3).f0⟩ : S24) [.int .i64 x7_3, .int .i64 ((rd_T24 y185 x43_3).f0)] (fun k_ => some k_ ≠ (.slice (some ad188) y185.length co24 : Value).ownBlock ∧ k_ ≠ gb189) (fun _ => False) rfl (by first | (go_simp; done) | (go_simp; rfl)) ?aP (fun _ hk => hk.elim) ?aF ?aO ?aB ?aS ?aL ?_; (case aP => exact k24_mkM _ _ _ (⟨x7_3, (rd_T24 y185 x43_3).f0⟩ : S24)); (case aB => exact (pxb HB)); (case aF => exact (fun k_ hk => ⟨Kd.fresh' (Kd.R_lt (by (with_reducible repeat (first | apply Kd.R_alloc | apply Kd.R_drewN | apply Kd.R_drew)); exact (Kd.R_mono (Kd.R_far (p := ⟨gb189, 1, none⟩) (Kd.R_far (p := ⟨gb189, 0, none⟩) (Kd.R_mono HO_41.out (fun k_ hk => (⟨hk, hk.2⟩ : _ ∧ k_ ≠ gb189))) (fun _ hk => hk.2) (.int .i64 ((rd_T24 y185 x43_3).f0))) (fun _ hk => hk.2) (.int .i64 ((rd_T24 y185 x43_3).f1))) (fun _ h_ => h_.1)))) k_ hk, Kd.freshB (g := gb189) (o := .cells #[.int .i64 ((rd_T24 y185 x43_3).f0), .int .i64 ((rd_T24 y185 x43_3).f1)] 24 (0, 0)) (pxp BK189) k_ hk⟩)); (case aO => exact (by (with_reducible repeat (first | apply Kd.R_alloc | apply Kd.R_drewN | apply Kd.R_drew)); exact Kd.R_mono (Kd.R_far (p := ⟨gb189, 1, none⟩) (Kd.R_far (p := ⟨gb189, 0, none⟩) (Kd.R_mono HO_6.out (fun k_ hk => (⟨hk, hk.2⟩ : _ ∧ k_ ≠ gb189))) (fun _ hk => hk.2) (.int .i64 ((rd_T24 y185 x43_3).f0))) (fun _ hk => hk.2) (.int .i64 ((rd_T24 y185 x43_3).f1))) (fun _ hk => ⟨hk.1.1, hk.1.2⟩))); (case aS => exact (below_size (pxb HB))); (case aL => have := LMc29.out; omega); intro v191 w32 ho hb hg hat; rw [← Ny190.out] at ho; have n0_ := Aside0.mk (Kd.R_after (ok := (fun k_ => k_ ≠ gb189)) (by (with_reducible repeat (first | apply Kd.R_alloc | apply Kd.R_drewN | apply Kd.R_drew)); exact Kd.R_mono (Kd.R_far (p := ⟨gb189, 1, none⟩) (Kd.R_far (p := ⟨gb189, 0, none⟩) (Kd.R_mono HO_41.out (fun k_ hk => (⟨hk, hk.2⟩ : _ ∧ k_ ≠ gb189))) (fun _ hk => hk.2) (.int .i64 ((rd_T24 y185 x43_3).f0))) (fun _ hk => hk.2) (.int .i64 ((rd_T24 y185 x43_3).f1))) (fun _ hk => ⟨hk.1.2, hk.1.1⟩)) hg hat); have n1_ := Aside0.mk (blk_grown (g := gb189) (o := .cells #[.int .i64 ((rd_T24 y185 x43_3).f0), .int .i64 ((rd_T24 y185 x43_3).f1)] 24 (0, 0)) (pxp BK189) hg (Kd.R_away HO_6.out (fun _ hk => hk.2))); have n2_ := Aside0.mk (hb); have n3_ := Aside0.mk (ho); clear HO_41; clear BK189; clear HB; clear HO_6; have HO_41 := n0_; have BK189 := n1_; have HB := n2_; have HO192 := n3_; clear n0_ n1_ n2_ n3_; clear ho hb hg hat; obtain ⟨hcz33_0, hcz33_1, hfz33_0, hfz33_1⟩ := pxf2 BK189))
                go_roundg k3
                case measure => have := HJ2.out; have := HK2.out; have := HK3.out; omega
                case rel => exact ⟨(y190), ((rd_T24 y185 x43_3).f1), (wrap64 (x43_3 + 1)), (by first | rfl | (simp; done) | (simp [*]; done)), (by first | rfl | (simp; done) | (simp [*]; done)), H', ⟨by have := HJ2.out; have := HK2.out; have := HK3.out; omega⟩, ⟨by (with_reducible repeat (first | apply Kd.R_alloc | apply Kd.R_drewN | apply Kd.R_drew)); exact Kd.R_mono HO192.out (fun _ hk => hk.1)⟩, ⟨by (with_reducible repeat (first | apply Kd.R_alloc | apply Kd.R_drewN | apply Kd.R_drew)); exact Kd.R_mono HO_41.out (fun _ hk => hk.2)⟩, ⟨pxb HB⟩⟩
               ·rw [if_neg c29] at H
                exact absurd H (by simp)
              ·rw [if_neg c28] at H
               have c28b0 : decide (x7_3 < ((rd_T24 y185 x43_3).f0)) = false := decide_eq_false c28
               clear c28
               have H' := Aside0.mk H
               clear H
               have p188 : 0 ≤ (x43_3 : Int) := pxd
               have q188 : x43_3 < (y185.length : Int) := pxd
               obtain ⟨ad188, e188, hx188_0, hx188_1⟩ := at_T24 (Kd.R_reads' HO_41.out).2.2 x43_3 p188 q188
               cases e188
               replace p188 := eq_true p188
               replace q188 := eq_true q188
               go_wp2_with (first | ((with_reducible refine gate_dst (N := 12) rfl ?_); refine box_event ?hg (N := 12) ?hd (cs := #[.int .i64 0, .int .i64 0]) (t := 24) ?hr ?_; (case hd => rfl); (case hg => rfl); (case hr => first | (go_simp; done) | (go_simp; rfl)); intro gb189 hg w34 hbox hb; have BK189 := Aside0.mk (hbox); have GW189 := pxw HB hg; have GE189 := pxw HB hg; replace HO_6 := Aside0.mk (Kd.R_below (Kd.R_elderB (pxr HO_6) gb189 (Nat.le_of_eq hg.symm)) hb); replace HO_41 := Aside0.mk (Kd.R_below (Kd.R_elderB (pxr HO_41) gb189 (Nat.le_of_eq hg.symm)) hb); replace HB := pxs HB hb; clear hb hbox hg; obtain ⟨hcz35_0, hcz35_1, hfz35_0, hfz35_1⟩ := pxf2 BK189))
               go_roundg k3
               case measure => have := HJ2.out; have := HK2.out; have := HK3.out; omega
               case rel => exact ⟨(x6_3), ((rd_T24 y185 x43_3).f1), (wrap64 (x43_3 + 1)), (by first | rfl | (simp; done) | (simp [*]; done)), (by first | rfl | (simp; done) | (simp [*]; done)), H', ⟨by have := HJ2.out; have := HK2.out; have := HK3.out; omega⟩, ⟨by (with_reducible repeat (first | apply Kd.R_alloc | apply Kd.R_drewN | apply Kd.R_drew)); exact Kd.R_mono (Kd.R_far (p := ⟨gb189, 1, none⟩) (Kd.R_far (p := ⟨gb189, 0, none⟩) (Kd.R_mono HO_6.out (fun k_ hk => (⟨hk, hk.2⟩ : _ ∧ k_ ≠ gb189))) (fun _ hk => hk.2) (.int .i64 ((rd_T24 y185 x43_3).f0))) (fun _ hk => hk.2) (.int .i64 ((rd_T24 y185 x43_3).f1))) (fun _ hk => hk.1.1)⟩, ⟨by (with_reducible repeat (first | apply Kd.R_alloc | apply Kd.R_drewN | apply Kd.R_drew)); exact Kd.R_mono (Kd.R_far (p := ⟨gb189, 1, none⟩) (Kd.R_far (p := ⟨gb189, 0, none⟩) (Kd.R_mono HO_41.out (fun k_ hk => (⟨hk, hk.2⟩ : _ ∧ k_ ≠ gb189))) (fun _ hk => hk.2) (.int .i64 ((rd_T24 y185 x43_3).f0))) (fun _ hk => hk.2) (.int .i64 ((rd_T24 y185 x43_3).f1))) (fun _ hk => hk.1.1)⟩, ⟨pxb HB⟩⟩
             ·rw [if_neg c27] at H
              exact absurd H (by simp)
            ·rw [if_neg c26] at H
             exact absurd H (by simp)
           ·rw [if_neg c25] at H
            have c25b0 : decide (x43_3 < (y185.length : Int)) = false := decide_eq_false c25
            clear c25
            simp only [Option.some.injEq, Prod.mk.injEq] at H
            obtain ⟨rfl, rfl⟩ := H
            go_wp2
            go_ret2
            exact ⟨_, by first | rfl | (simp [errW_none, errW_some] <;> rfl) | (simp [*, errW_none, errW_some] <;> rfl), by (with_reducible repeat (first | apply Kd.R_alloc | apply Kd.R_drewN | apply Kd.R_drew)); exact Kd.R_mono HO_6.out (fun _ hk => trivial), pxb HB⟩
        ·rw [if_neg c20] at H
         exact absurd H (by simp)
       ·replace c18 := Bool.eq_false_iff.mpr c18
        subst c18
        have H1 : (some (([] : List (S24)), 7)) = some (r1, r2) := by rw [if_neg (show ¬ (false = true) by decide)] at H; exact H
        clear H
        have H := H1
        clear H1
        simp only [Option.some.injEq, Prod.mk.injEq] at H
        obtain ⟨rfl, rfl⟩ := H
        go_wp2_with (first | ((with_reducible refine gate_callee (f := 32) rfl ?_); refine goesL_ (some 33) rfl rfl Tryd.func32 (by kernel_rfl) rfl #[.slice A1 l1.length c1] rfl (by (try simp only [List.map_toArray, List.map_cons, List.map_nil]); first | done | rfl | (simp only [List.length_drop, List.length_take]; rfl)) ?_; (with_reducible refine (span_Sorted.calls k2 _ _ l1 false _ ?side1 ?side2 A17.out).mono ?_); (case side1 => exact pxc HR1 HB); (case side2 => exact HC1.out); rintro e w36 ⟨rfl, hb⟩; refine ⟨_, rfl, ?_⟩; replace HB := pxs HB hb; (try clear hb); (try clear hb2); (try clear hk); (try clear hi)))
        go_ret2
        exact ⟨_, by first | rfl | (simp [errW_none, errW_some] <;> rfl) | (simp [*, errW_none, errW_some] <;> rfl), by first | exact Kd.R_nil _ _ _ _ _ | exact Kd.N_nil _ _ _ _ _ | exact Kd.V_nil _ _ _ _ _ | exact Kd.Q_nil _ _ _ _ _ | exact Kd.S_nil _ _ _ _ _, pxb HB⟩

end Go.Proofs.YtimhbepecnmjeaaDoor.X
