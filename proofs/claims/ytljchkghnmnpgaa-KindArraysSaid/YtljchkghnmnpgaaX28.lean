/- What the program's functions answer, as Lean functions, and that each call does just that; no condition. Written by a program (px.py) out of the translation. -/
import Derived.Test.YtljchkghnmnpgaaX0
import Derived.Test.YtljchkghnmnpgaaX26
namespace Go.Proofs.Ytljchkghnmnpgaa.X
open Go.RowKit Go.Proofs.YtljchkghnmnpgaaW.PrintWords Go.Proofs.YtljchkghnmnpgaaW.PrintLast Go.Proofs.YtljchkghnmnpgaaW.PrintMore
attribute [local go_sem] max2_int min2_int max_two min_two max_three min_three max_four min_four   -- for this text's walks alone
set_option linter.unusedVariables false
set_option linter.unusedSimpArgs false

/-! ### kind_Layers: function 28 -/
mutual
def kind_Layers.j0 : Nat → List Int → Bool → Int → ByteArray → Int → ByteArray → Option (List Int)
 | 0, _, _, _, _, _, _ => none
 | k + 1, x3, x17, x165000, x165001, x165002, x165003 => if x17 = true then (some x3) else (kind_Layers.l0 k x3 (wrap64 (x165002 + 1)) 0 x165000 x165001 x165002 x165003)
def kind_Layers.l0 : Nat → List Int → Int → Int → Int → ByteArray → Int → ByteArray → Option (List Int)
 | 0, _, _, _, _, _, _, _ => none
 | k + 1, x3, x21, x22, x165000, x165001, x165002, x165003 => if x22 < x21 then (if x22 > 0 then (if x3.length < 17592186044416 then (kind_Layers.l0 k (x3 ++ [x22]) x21 (wrap64 (x22 + 1)) x165000 x165001 x165002 x165003) else (none)) else (if x165000 = 5 then (if x3.length < 17592186044416 then (kind_Layers.l0 k (x3 ++ [x22]) x21 (wrap64 (x22 + 1)) x165000 x165001 x165002 x165003) else (none)) else (kind_Layers.l0 k x3 x21 (wrap64 (x22 + 1)) x165000 x165001 x165002 x165003))) else (some x3)
end
def kind_Layers.f (k : Nat) (a0_0 : Int) (a0_1 : ByteArray) (a0_2 : Int) (a0_3 : ByteArray) : Option (List Int) := (kind_Right.f k a0_0 a0_1 a0_2 a0_3).bind fun t165 => (if t165 = true then (if a0_0 = 7 then (kind_Layers.j0 k ([] : List Int) true a0_0 a0_1 a0_2 a0_3) else (kind_Layers.j0 k ([] : List Int) (a0_0 == 8) a0_0 a0_1 a0_2 a0_3)) else (kind_Layers.j0 k ([] : List Int) true a0_0 a0_1 a0_2 a0_3))
theorem kind_Layers.mono_l : ∀ k, (∀ y0 y1 y2 y3 y4 y5, LeO (kind_Layers.j0 k y0 y1 y2 y3 y4 y5) (kind_Layers.j0 (k + 1) y0 y1 y2 y3 y4 y5)) ∧ (∀ y0 y1 y2 y3 y4 y5 y6, LeO (kind_Layers.l0 k y0 y1 y2 y3 y4 y5 y6) (kind_Layers.l0 (k + 1) y0 y1 y2 y3 y4 y5 y6))
 | 0 => ⟨fun _ _ _ _ _ _ r h => by simp [kind_Layers.j0] at h, fun _ _ _ _ _ _ _ r h => by simp [kind_Layers.l0] at h⟩
 | k + 1 => by
  obtain ⟨ih0, ih1⟩ := kind_Layers.mono_l k
  refine ⟨?_, ?_⟩
  ·intro y0 y1 y2 y3 y4 y5
   unfold kind_Layers.j0
   repeat' first
   | (with_reducible exact ih0 _ _ _ _ _ _)
   | (with_reducible exact ih1 _ _ _ _ _ _ _)
   | (with_reducible exact kind_Right.mono _ _ _ _ _)
   | (with_reducible exact LeO.refl _)
   | (with_reducible exact LeO.none _)
   | (with_reducible refine LeO.ite ?_ ?_)
   | (with_reducible refine LeO.bind ?_ (fun _ => ?_))
   | exact ih0 _ _ _ _ _ _
   | exact ih1 _ _ _ _ _ _ _
   | exact kind_Right.mono _ _ _ _ _
   | exact LeO.none _
   | refine LeO.ite ?_ ?_
   | refine LeO.bind ?_ (fun _ => ?_)
  ·intro y0 y1 y2 y3 y4 y5 y6
   unfold kind_Layers.l0
   repeat' first
   | (with_reducible exact ih0 _ _ _ _ _ _)
   | (with_reducible exact ih1 _ _ _ _ _ _ _)
   | (with_reducible exact kind_Right.mono _ _ _ _ _)
   | (with_reducible exact LeO.refl _)
   | (with_reducible exact LeO.none _)
   | (with_reducible refine LeO.ite ?_ ?_)
   | (with_reducible refine LeO.bind ?_ (fun _ => ?_))
   | exact ih0 _ _ _ _ _ _
   | exact ih1 _ _ _ _ _ _ _
   | exact kind_Right.mono _ _ _ _ _
   | exact LeO.none _
   | refine LeO.ite ?_ ?_
   | refine LeO.bind ?_ (fun _ => ?_)
theorem kind_Layers.mono : ∀ a0 a1 a2 a3 k, LeO (kind_Layers.f k a0 a1 a2 a3) (kind_Layers.f (k + 1) a0 a1 a2 a3) := by
 intro a0 a1 a2 a3 k
 obtain ⟨ih0, ih1⟩ := kind_Layers.mono_l k
 unfold kind_Layers.f
 repeat' first
   | (with_reducible exact ih0 _ _ _ _ _ _)
   | (with_reducible exact ih1 _ _ _ _ _ _ _)
   | (with_reducible exact kind_Right.mono _ _ _ _ _)
   | (with_reducible exact LeO.refl _)
   | (with_reducible exact LeO.none _)
   | (with_reducible refine LeO.ite ?_ ?_)
   | (with_reducible refine LeO.bind ?_ (fun _ => ?_))
   | exact ih0 _ _ _ _ _ _
   | exact ih1 _ _ _ _ _ _ _
   | exact kind_Right.mono _ _ _ _ _
   | exact LeO.none _
   | refine LeO.ite ?_ ?_
   | refine LeO.bind ?_ (fun _ => ?_)
set_option maxHeartbeats 8000000 in
set_option maxRecDepth 100000 in
theorem kind_Layers.calls (k : Nat) (a0_0 : Int) (a0_1 : ByteArray) (a0_2 : Int) (a0_3 : ByteArray) (r : List Int) (w : World) (h : kind_Layers.f k a0_0 a0_1 a0_2 a0_3 = some r) :
  Calls Try.prog 28 #[.agg #[.int .i64 a0_0, .string a0_1, .int .i64 a0_2, .string a0_3]] w fun e w' => ∃ v0_ : Value, e = .returned (v0_) ∧ Kd.R (Kd.int .i64) 3 w' w.heap.size (fun _ => True) v0_ r ∧ Below w.heap.size w w' := by
 have hu23 := Try.underlying23
 have HB := Aside0.mk (Below.refl w.heap.size w)
 have H : ((kind_Right.f k a0_0 a0_1 a0_2 a0_3).bind fun t165 => (if t165 = true then (if a0_0 = 7 then (kind_Layers.j0 k ([] : List Int) true a0_0 a0_1 a0_2 a0_3) else (kind_Layers.j0 k ([] : List Int) (a0_0 == 8) a0_0 a0_1 a0_2 a0_3)) else (kind_Layers.j0 k ([] : List Int) true a0_0 a0_1 a0_2 a0_3))) = some r := h
 clear h
 have HC2 := Aside0.mk H
 clear H
 go_enter Try.func28, Try.ntmps28
 go_upto_region 2 with (first | ((with_reducible refine gate_dst (N := 1) rfl ?_); refine box_event ?hg (N := 1) ?hd (cs := #[.int .i64 a0_0, .string a0_1, .int .i64 a0_2, .string a0_3]) (t := 23) ?hr ?_; (case hd => rfl); (case hg => rfl); (case hr => first | (go_simp; done) | (go_simp; rfl)); intro gb164 hg w3 hbox hb; have n0_ := pxs HB hb; have n1_ := Aside0.mk (hbox); have n2_ := Aside0.mk ((by rw [hg]; exact (below_size (pxb HB)) : w.heap.size ≤ gb164)); have n3_ := Aside0.mk ((by rw [hg]; exact (below_size (pxb HB)) : w.heap.size ≤ gb164)); clear HB; have HB := n0_; have BK164 := n1_; have GW164 := n2_; have GE164 := n3_; clear n0_ n1_ n2_ n3_; clear hb hbox hg))
 (try simp only [Act.put, List.setIfInBounds_toArray, List.set_cons_zero, List.set_cons_succ])
 go_cut [17] (fun v17 wc => ∃ (kq : Nat) (x17_1 : Bool), v17 = .bool x17_1 ∧ Aside0 (kind_Layers.j0 kq ([] : List Int) x17_1 a0_0 a0_1 a0_2 a0_3 = some r) ∧ Aside0 (kq ≤ k) ∧ Aside0 (Kd.R (Kd.int .i64) 3 wc w.heap.size (fun _ => True) (.slice none 0 0) ([] : List Int)) ∧ Aside0 (wc.heap[gb164]? = some (.cells #[.int .i64 a0_0, .string a0_1, .int .i64 a0_2, .string a0_3] 23 (0, 0))) ∧ Aside0 (Below w.heap.size w wc))
 case first =>
  have H := HC2.out
  clear HC2
  replace H := Option.bind_eq_some_iff.mp H
  obtain ⟨t165, A40, H⟩ := H
  replace H : (if t165 = true then (if a0_0 = 7 then (kind_Layers.j0 k ([] : List Int) true a0_0 a0_1 a0_2 a0_3) else (kind_Layers.j0 k ([] : List Int) (a0_0 == 8) a0_0 a0_1 a0_2 a0_3)) else (kind_Layers.j0 k ([] : List Int) true a0_0 a0_1 a0_2 a0_3)) = some r := H
  have A4 := Aside0.mk A40
  clear A40
  by_cases c5 : t165 = true
  ·subst c5
   have H1 : (if a0_0 = 7 then (kind_Layers.j0 k ([] : List Int) true a0_0 a0_1 a0_2 a0_3) else (kind_Layers.j0 k ([] : List Int) (a0_0 == 8) a0_0 a0_1 a0_2 a0_3)) = some r := by rw [if_pos rfl] at H; exact H
   clear H
   have H := H1
   clear H1
   by_cases c6 : a0_0 = 7
   ·rw [if_pos c6] at H
    have c6b0 : (a0_0 == 7) = true := beq_iff_eq.mpr c6
    have c6b1 : (a0_0 != 7) = false := bne_eq_false_iff_eq.mpr c6
    clear c6
    (first | rw [c6b0] | (simp only [i64_w, i32_w]; rw [c6b0]) | skip)
    have H' := Aside0.mk H
    clear H
    have hcz7_0 : w3.cell? ⟨gb164, 0, none⟩ = some (.int .i64 a0_0) := (blk_cell BK164.out 0).trans rfl
    have hcz7_1 : w3.cell? ⟨gb164, 1, none⟩ = some (.string a0_1) := (blk_cell BK164.out 1).trans rfl
    have hcz7_2 : w3.cell? ⟨gb164, 2, none⟩ = some (.int .i64 a0_2) := (blk_cell BK164.out 2).trans rfl
    have hcz7_3 : w3.cell? ⟨gb164, 3, none⟩ = some (.string a0_3) := (blk_cell BK164.out 3).trans rfl
    have hfz7_0 := blk_frozen BK164.out 0
    have hfz7_1 := blk_frozen BK164.out 1
    have hfz7_2 := blk_frozen BK164.out 2
    have hfz7_3 := blk_frozen BK164.out 3
    go_wp2_with (first | ((with_reducible refine gate_callee (f := 26) rfl ?_); refine goesL_ (some 6) rfl rfl Try.func26 (by kernel_rfl) rfl #[.agg #[.int .i64 a0_0, .string a0_1, .int .i64 a0_2, .string a0_3]] rfl (by (try simp only [List.map_toArray, List.map_cons, List.map_nil]); first | done | rfl | (simp only [List.length_drop, List.length_take]; rfl)) ?_; (with_reducible refine (kind_Right.calls k a0_0 a0_1 a0_2 a0_3 true _ A4.out).mono ?_); rintro e w8 ⟨rfl, hb⟩; refine ⟨_, rfl, ?_⟩; have n0_ := pxk BK164 hb; have n1_ := pxs HB hb; clear BK164; clear HB; have BK164 := n0_; have HB := n1_; clear n0_ n1_; (try clear hb); (try clear hb2); (try clear hk); (try clear hi); have hcz9_0 : w8.cell? ⟨gb164, 0, none⟩ = some (.int .i64 a0_0) := (blk_cell BK164.out 0).trans rfl; have hcz9_1 : w8.cell? ⟨gb164, 1, none⟩ = some (.string a0_1) := (blk_cell BK164.out 1).trans rfl; have hcz9_2 : w8.cell? ⟨gb164, 2, none⟩ = some (.int .i64 a0_2) := (blk_cell BK164.out 2).trans rfl; have hcz9_3 : w8.cell? ⟨gb164, 3, none⟩ = some (.string a0_3) := (blk_cell BK164.out 3).trans rfl; have hfz9_0 := blk_frozen BK164.out 0; have hfz9_1 := blk_frozen BK164.out 1; have hfz9_2 := blk_frozen BK164.out 2; have hfz9_3 := blk_frozen BK164.out 3))
    go_meet
    case rel => exact ⟨_, (true), (by first | rfl | (simp; done) | (simp [*]; done)), H', ⟨by first | omega | exact Nat.le_refl _⟩, ⟨by first | exact Kd.R_nil _ _ _ _ _ | exact Kd.N_nil _ _ _ _ _ | exact Kd.V_nil _ _ _ _ _ | exact Kd.Q_nil _ _ _ _ _ | exact Kd.S_nil _ _ _ _ _⟩, ⟨pxq BK164⟩, ⟨pxb HB⟩⟩
   ·rw [if_neg c6] at H
    have c6b0 : (a0_0 == 7) = false := beq_eq_false_iff_ne.mpr c6
    have c6b1 : (a0_0 != 7) = true := bne_iff_ne.mpr c6
    (first | rw [c6b0] | (simp only [i64_w, i32_w]; rw [c6b0]) | skip)
    have H' := Aside0.mk H
    clear H
    have hcz10_0 : w3.cell? ⟨gb164, 0, none⟩ = some (.int .i64 a0_0) := (blk_cell BK164.out 0).trans rfl
    have hcz10_1 : w3.cell? ⟨gb164, 1, none⟩ = some (.string a0_1) := (blk_cell BK164.out 1).trans rfl
    have hcz10_2 : w3.cell? ⟨gb164, 2, none⟩ = some (.int .i64 a0_2) := (blk_cell BK164.out 2).trans rfl
    have hcz10_3 : w3.cell? ⟨gb164, 3, none⟩ = some (.string a0_3) := (blk_cell BK164.out 3).trans rfl
    have hfz10_0 := blk_frozen BK164.out 0
    have hfz10_1 := blk_frozen BK164.out 1
    have hfz10_2 := blk_frozen BK164.out 2
    have hfz10_3 := blk_frozen BK164.out 3
    go_wp2_with (first | ((with_reducible refine gate_callee (f := 26) rfl ?_); refine goesL_ (some 6) rfl rfl Try.func26 (by kernel_rfl) rfl #[.agg #[.int .i64 a0_0, .string a0_1, .int .i64 a0_2, .string a0_3]] rfl (by (try simp only [List.map_toArray, List.map_cons, List.map_nil]); first | done | rfl | (simp only [List.length_drop, List.length_take]; rfl)) ?_; (with_reducible refine (kind_Right.calls k a0_0 a0_1 a0_2 a0_3 true _ A4.out).mono ?_); rintro e w11 ⟨rfl, hb⟩; refine ⟨_, rfl, ?_⟩; have n0_ := pxk BK164 hb; have n1_ := pxs HB hb; clear BK164; clear HB; have BK164 := n0_; have HB := n1_; clear n0_ n1_; (try clear hb); (try clear hb2); (try clear hk); (try clear hi); have hcz12_0 : w11.cell? ⟨gb164, 0, none⟩ = some (.int .i64 a0_0) := (blk_cell BK164.out 0).trans rfl; have hcz12_1 : w11.cell? ⟨gb164, 1, none⟩ = some (.string a0_1) := (blk_cell BK164.out 1).trans rfl; have hcz12_2 : w11.cell? ⟨gb164, 2, none⟩ = some (.int .i64 a0_2) := (blk_cell BK164.out 2).trans rfl; have hcz12_3 : w11.cell? ⟨gb164, 3, none⟩ = some (.string a0_3) := (blk_cell BK164.out 3).trans rfl; have hfz12_0 := blk_frozen BK164.out 0; have hfz12_1 := blk_frozen BK164.out 1; have hfz12_2 := blk_frozen BK164.out 2; have hfz12_3 := blk_frozen BK164.out 3))
    go_meet
    case rel => exact ⟨_, ((a0_0 == 8)), (by first | rfl | (simp; done) | (simp [*]; done)), H', ⟨by first | omega | exact Nat.le_refl _⟩, ⟨by first | exact Kd.R_nil _ _ _ _ _ | exact Kd.N_nil _ _ _ _ _ | exact Kd.V_nil _ _ _ _ _ | exact Kd.Q_nil _ _ _ _ _ | exact Kd.S_nil _ _ _ _ _⟩, ⟨pxq BK164⟩, ⟨pxb HB⟩⟩
  ·replace c5 := Bool.eq_false_iff.mpr c5
   subst c5
   have H1 : (kind_Layers.j0 k ([] : List Int) true a0_0 a0_1 a0_2 a0_3) = some r := by rw [if_neg (show ¬ (false = true) by decide)] at H; exact H
   clear H
   have H := H1
   clear H1
   have H' := Aside0.mk H
   clear H
   have hcz13_0 : w3.cell? ⟨gb164, 0, none⟩ = some (.int .i64 a0_0) := (blk_cell BK164.out 0).trans rfl
   have hcz13_1 : w3.cell? ⟨gb164, 1, none⟩ = some (.string a0_1) := (blk_cell BK164.out 1).trans rfl
   have hcz13_2 : w3.cell? ⟨gb164, 2, none⟩ = some (.int .i64 a0_2) := (blk_cell BK164.out 2).trans rfl
   have hcz13_3 : w3.cell? ⟨gb164, 3, none⟩ = some (.string a0_3) := (blk_cell BK164.out 3).trans rfl
   have hfz13_0 := blk_frozen BK164.out 0
   have hfz13_1 := blk_frozen BK164.out 1
   have hfz13_2 := blk_frozen BK164.out 2
   have hfz13_3 := blk_frozen BK164.out 3
   go_wp2_with (first | ((with_reducible refine gate_callee (f := 26) rfl ?_); refine goesL_ (some 6) rfl rfl Try.func26 (by kernel_rfl) rfl #[.agg #[.int .i64 a0_0, .string a0_1, .int .i64 a0_2, .string a0_3]] rfl (by (try simp only [List.map_toArray, List.map_cons, List.map_nil]); first | done | rfl | (simp only [List.length_drop, List.length_take]; rfl)) ?_; (with_reducible refine (kind_Right.calls k a0_0 a0_1 a0_2 a0_3 false _ A4.out).mono ?_); rintro e w14 ⟨rfl, hb⟩; refine ⟨_, rfl, ?_⟩; have n0_ := pxk BK164 hb; have n1_ := pxs HB hb; clear BK164; clear HB; have BK164 := n0_; have HB := n1_; clear n0_ n1_; (try clear hb); (try clear hb2); (try clear hk); (try clear hi)))
   go_meet
   case rel => exact ⟨_, (true), (by first | rfl | (simp; done) | (simp [*]; done)), H', ⟨by first | omega | exact Nat.le_refl _⟩, ⟨by first | exact Kd.R_nil _ _ _ _ _ | exact Kd.N_nil _ _ _ _ _ | exact Kd.V_nil _ _ _ _ _ | exact Kd.Q_nil _ _ _ _ _ | exact Kd.S_nil _ _ _ _ _⟩, ⟨pxq BK164⟩, ⟨pxb HB⟩⟩
 case rest =>
  clear HC2
  try clear c2
  try clear p2
  try clear c5
  try clear c6
  try clear c6b0
  try clear c6b1
  try clear hcz10_0
  try clear hcz10_1
  try clear hcz10_2
  try clear hcz10_3
  try clear hcz12_0
  try clear hcz12_1
  try clear hcz12_2
  try clear hcz12_3
  try clear hcz13_0
  try clear hcz13_1
  try clear hcz13_2
  try clear hcz13_3
  try clear hcz7_0
  try clear hcz7_1
  try clear hcz7_2
  try clear hcz7_3
  try clear hcz9_0
  try clear hcz9_1
  try clear hcz9_2
  try clear hcz9_3
  try clear hfz10_0
  try clear hfz10_1
  try clear hfz10_2
  try clear hfz10_3
  try clear hfz12_0
  try clear hfz12_1
  try clear hfz12_2
  try clear hfz12_3
  try clear hfz13_0
  try clear hfz13_1
  try clear hfz13_2
  try clear hfz13_3
  try clear hfz7_0
  try clear hfz7_1
  try clear hfz7_2
  try clear hfz7_3
  try clear hfz9_0
  try clear hfz9_1
  try clear hfz9_2
  try clear hfz9_3
  obtain ⟨kq, x17_1, rfl, HA, HJ1, HO_3, BK164, HB⟩ := hcut
  cases kq with
  | zero => exact absurd HA.out (by simp [kind_Layers.j0])
  | succ kj1 =>
   have H := HA.out
   clear HA
   simp only [kind_Layers.j0] at H
   by_cases c15 : x17_1 = true
   ·subst c15
    have H1 : (some ([] : List Int)) = some r := by rw [if_pos rfl] at H; exact H
    clear H
    have H := H1
    clear H1
    obtain rfl := Option.some.inj H
    go_wp2
    go_ret
    exact ⟨_, by first | rfl | (simp [errW_none, errW_some] <;> rfl) | (simp [*, errW_none, errW_some] <;> rfl), pxr HO_3, pxb HB⟩
   ·replace c15 := Bool.eq_false_iff.mpr c15
    subst c15
    have H1 : (kind_Layers.l0 kj1 ([] : List Int) (wrap64 (a0_2 + 1)) 0 a0_0 a0_1 a0_2 a0_3) = some r := by rw [if_neg (show ¬ (false = true) by decide)] at H; exact H
    clear H
    have H := H1
    clear H1
    have H' := Aside0.mk H
    clear H
    have hcz16_0 : wc.cell? ⟨gb164, 0, none⟩ = some (.int .i64 a0_0) := (blk_cell BK164.out 0).trans rfl
    have hcz16_1 : wc.cell? ⟨gb164, 1, none⟩ = some (.string a0_1) := (blk_cell BK164.out 1).trans rfl
    have hcz16_2 : wc.cell? ⟨gb164, 2, none⟩ = some (.int .i64 a0_2) := (blk_cell BK164.out 2).trans rfl
    have hcz16_3 : wc.cell? ⟨gb164, 3, none⟩ = some (.string a0_3) := (blk_cell BK164.out 3).trans rfl
    have hfz16_0 := blk_frozen BK164.out 0
    have hfz16_1 := blk_frozen BK164.out 1
    have hfz16_2 := blk_frozen BK164.out 2
    have hfz16_3 := blk_frozen BK164.out 3
    go_wp2
    go_loopg [3, 22] kj1 (fun kq v3 v22 w' => ∃ (x3_2 : List Int) (x22_2 : Int), v22 = .int .i64 x22_2 ∧ Aside0 (kind_Layers.l0 kq x3_2 (wrap64 (a0_2 + 1)) x22_2 a0_0 a0_1 a0_2 a0_3 = some r) ∧ Aside0 (kq ≤ kj1) ∧ Aside0 (Kd.R (Kd.int .i64) 3 w' w.heap.size (fun _ => True) v3 x3_2) ∧ Aside0 (w'.heap[gb164]? = some (.cells #[.int .i64 a0_0, .string a0_1, .int .i64 a0_2, .string a0_3] 23 (0, 0))) ∧ Aside0 (Below w.heap.size w w'))
    case atStart => exact ⟨(([] : List Int)), (0), (by first | rfl | (simp; done) | (simp [*]; done)), H', ⟨Nat.le_refl _⟩, ⟨pxr HO_3⟩, ⟨pxq BK164⟩, ⟨pxb HB⟩⟩
    case round =>
     clear H'
     try clear c1
     try clear c2
     try clear p2
     try clear c5
     try clear c6
     try clear c6b0
     try clear c6b1
     try clear p6
     try clear c15
     try clear hcz10_0
     try clear hcz10_1
     try clear hcz10_2
     try clear hcz10_3
     try clear hcz12_0
     try clear hcz12_1
     try clear hcz12_2
     try clear hcz12_3
     try clear hcz13_0
     try clear hcz13_1
     try clear hcz13_2
     try clear hcz13_3
     try clear hcz16_0
     try clear hcz16_1
     try clear hcz16_2
     try clear hcz16_3
     try clear hcz7_0
     try clear hcz7_1
     try clear hcz7_2
     try clear hcz7_3
     try clear hcz9_0
     try clear hcz9_1
     try clear hcz9_2
     try clear hcz9_3
     try clear hfz10_0
     try clear hfz10_1
     try clear hfz10_2
     try clear hfz10_3
     try clear hfz12_0
     try clear hfz12_1
     try clear hfz12_2
     try clear hfz12_3
     try clear hfz13_0
     try clear hfz13_1
     try clear hfz13_2
     try clear hfz13_3
     try clear hfz16_0
     try clear hfz16_1
     try clear hfz16_2
     try clear hfz16_3
     try clear hfz7_0
     try clear hfz7_1
     try clear hfz7_2
     try clear hfz7_3
     try clear hfz9_0
     try clear hfz9_1
     try clear hfz9_2
     try clear hfz9_3
     try clear p2
     obtain ⟨x3_2, x22_2, rfl, HA, HK2, HO_3, BK164, HB⟩ := hrel
     cases gk with
     | zero => exact absurd HA.out (by simp [kind_Layers.l0])
     | succ k2 =>
      have H := HA.out
      clear HA
      simp only [kind_Layers.l0] at H
      by_cases c17 : x22_2 < (wrap64 (a0_2 + 1))
      ·rw [if_pos c17] at H
       have c17b0 : decide (x22_2 < (wrap64 (a0_2 + 1))) = true := decide_eq_true c17
       clear c17
       by_cases c18 : x22_2 > 0
       ·rw [if_pos c18] at H
        have c18b0 : decide (0 < x22_2) = true := decide_eq_true c18
        clear c18
        by_cases c19 : x3_2.length < 17592186044416
        ·rw [if_pos c19] at H
         have LMc19 := Aside0.mk c19
         clear c19
         obtain ⟨y166, hy166⟩ : ∃ y_ : List Int, y_ = (x3_2 ++ [x22_2]) := ⟨_, rfl⟩
         replace H : (kind_Layers.l0 k2 y166 (wrap64 (a0_2 + 1)) (wrap64 (x22_2 + 1)) a0_0 a0_1 a0_2 a0_3) = some r := by first | (rw [hy166]; with_reducible exact H) | (have H2_ := (Option.bind_some _ _).symm.trans H; rw [hy166]; with_reducible exact H2_) | (have H2_ := (Option.bind_some _ _).symm.trans H; with_reducible exact H2_) | with_reducible exact H | (rw [hy166]; exact H) | exact H
         have Ny166 := Aside0.mk hy166
         clear hy166
         have H' := Aside0.mk H
         clear H
         go_wp2_with (first | ((with_reducible refine gate_builtin (b := .append) (xs := #[.tmp 32, .tmp 34]) rfl ?_); at_builtin; refine Kd.R_append (Kd.int .i64) (w0 := w) w.heap.size rfl (.tmp 32) (.tmp 34) 41 3 (.int .i64 0) 8 rfl Try.underlying41 info3 rfl (by decide) (by omega) u3 x3_2 x22_2 [.int .i64 x22_2] (fun _ => True) (fun _ => False) rfl rfl ?aP (fun _ hk => hk.elim) ?aF ?aO ?aB ?aS ?aL ?_; (case aP => exact rfl); (case aB => exact (pxb HB)); (case aF => exact (fun _ _ => trivial)); (case aO => exact (pxr HO_3)); (case aS => exact (below_size (pxb HB))); (case aL => have := LMc19.out; omega); intro v167 w20 ho hb hg hat; rw [← Ny166.out] at ho; have n0_ := Aside0.mk (blk_grown (g := gb164) (o := .cells #[.int .i64 a0_0, .string a0_1, .int .i64 a0_2, .string a0_3] 23 (0, 0)) (pxq BK164) hg (Kd.R_ne HO_3.out BK164.out (by decide))); have n1_ := Aside0.mk (hb); have n2_ := Aside0.mk (ho); clear BK164; clear HB; clear HO_3; have BK164 := n0_; have HB := n1_; have HO168 := n2_; clear n0_ n1_ n2_; clear ho hb hg hat))
         go_roundg k2
         case measure => have := HJ1.out; have := HK2.out; omega
         case rel => exact ⟨(y166), (wrap64 (x22_2 + 1)), (by first | rfl | (simp; done) | (simp [*]; done)), H', ⟨by have := HJ1.out; have := HK2.out; omega⟩, ⟨pxr HO168⟩, ⟨pxq BK164⟩, ⟨pxb HB⟩⟩
        ·rw [if_neg c19] at H
         exact absurd H (by simp)
       ·rw [if_neg c18] at H
        have c18b0 : decide (0 < x22_2) = false := decide_eq_false c18
        clear c18
        by_cases c21 : a0_0 = 5
        ·rw [if_pos c21] at H
         have c21b0 : (a0_0 == 5) = true := beq_iff_eq.mpr c21
         have c21b1 : (a0_0 != 5) = false := bne_eq_false_iff_eq.mpr c21
         clear c21
         by_cases c22 : x3_2.length < 17592186044416
         ·rw [if_pos c22] at H
          have LMc22 := Aside0.mk c22
          clear c22
          obtain ⟨y169, hy169⟩ : ∃ y_ : List Int, y_ = (x3_2 ++ [x22_2]) := ⟨_, rfl⟩
          replace H : (kind_Layers.l0 k2 y169 (wrap64 (a0_2 + 1)) (wrap64 (x22_2 + 1)) a0_0 a0_1 a0_2 a0_3) = some r := by first | (rw [hy169]; with_reducible exact H) | (have H2_ := (Option.bind_some _ _).symm.trans H; rw [hy169]; with_reducible exact H2_) | (have H2_ := (Option.bind_some _ _).symm.trans H; with_reducible exact H2_) | with_reducible exact H | (rw [hy169]; exact H) | exact H
          have Ny169 := Aside0.mk hy169
          clear hy169
          have H' := Aside0.mk H
          clear H
          have hcz23_0 : wr.cell? ⟨gb164, 0, none⟩ = some (.int .i64 a0_0) := (blk_cell BK164.out 0).trans rfl
          have hcz23_1 : wr.cell? ⟨gb164, 1, none⟩ = some (.string a0_1) := (blk_cell BK164.out 1).trans rfl
          have hcz23_2 : wr.cell? ⟨gb164, 2, none⟩ = some (.int .i64 a0_2) := (blk_cell BK164.out 2).trans rfl
          have hcz23_3 : wr.cell? ⟨gb164, 3, none⟩ = some (.string a0_3) := (blk_cell BK164.out 3).trans rfl
          have hfz23_0 := blk_frozen BK164.out 0
          have hfz23_1 := blk_frozen BK164.out 1
          have hfz23_2 := blk_frozen BK164.out 2
          have hfz23_3 := blk_frozen BK164.out 3
          go_wp2_with (first | ((with_reducible refine gate_builtin (b := .append) (xs := #[.tmp 32, .tmp 34]) rfl ?_); at_builtin; refine Kd.R_append (Kd.int .i64) (w0 := w) w.heap.size rfl (.tmp 32) (.tmp 34) 41 3 (.int .i64 0) 8 rfl Try.underlying41 info3 rfl (by decide) (by omega) u3 x3_2 x22_2 [.int .i64 x22_2] (fun _ => True) (fun _ => False) rfl rfl ?aP (fun _ hk => hk.elim) ?aF ?aO ?aB ?aS ?aL ?_; (case aP => exact rfl); (case aB => exact (pxb HB)); (case aF => exact (fun _ _ => trivial)); (case aO => exact (pxr HO_3)); (case aS => exact (below_size (pxb HB))); (case aL => have := LMc22.out; omega); intro v170 w24 ho hb hg hat; rw [← Ny169.out] at ho; have n0_ := Aside0.mk (blk_grown (g := gb164) (o := .cells #[.int .i64 a0_0, .string a0_1, .int .i64 a0_2, .string a0_3] 23 (0, 0)) (pxq BK164) hg (Kd.R_ne HO_3.out BK164.out (by decide))); have n1_ := Aside0.mk (hb); have n2_ := Aside0.mk (ho); clear BK164; clear HB; clear HO_3; have BK164 := n0_; have HB := n1_; have HO171 := n2_; clear n0_ n1_ n2_; clear ho hb hg hat))
          go_roundg k2
          case measure => have := HJ1.out; have := HK2.out; omega
          case rel => exact ⟨(y169), (wrap64 (x22_2 + 1)), (by first | rfl | (simp; done) | (simp [*]; done)), H', ⟨by have := HJ1.out; have := HK2.out; omega⟩, ⟨pxr HO171⟩, ⟨pxq BK164⟩, ⟨pxb HB⟩⟩
         ·rw [if_neg c22] at H
          exact absurd H (by simp)
        ·rw [if_neg c21] at H
         have c21b0 : (a0_0 == 5) = false := beq_eq_false_iff_ne.mpr c21
         have c21b1 : (a0_0 != 5) = true := bne_iff_ne.mpr c21
         have H' := Aside0.mk H
         clear H
         have hcz25_0 : wr.cell? ⟨gb164, 0, none⟩ = some (.int .i64 a0_0) := (blk_cell BK164.out 0).trans rfl
         have hcz25_1 : wr.cell? ⟨gb164, 1, none⟩ = some (.string a0_1) := (blk_cell BK164.out 1).trans rfl
         have hcz25_2 : wr.cell? ⟨gb164, 2, none⟩ = some (.int .i64 a0_2) := (blk_cell BK164.out 2).trans rfl
         have hcz25_3 : wr.cell? ⟨gb164, 3, none⟩ = some (.string a0_3) := (blk_cell BK164.out 3).trans rfl
         have hfz25_0 := blk_frozen BK164.out 0
         have hfz25_1 := blk_frozen BK164.out 1
         have hfz25_2 := blk_frozen BK164.out 2
         have hfz25_3 := blk_frozen BK164.out 3
         go_wp2
         go_roundg k2
         case measure => have := HJ1.out; have := HK2.out; omega
         case rel => exact ⟨(x3_2), (wrap64 (x22_2 + 1)), (by first | rfl | (simp; done) | (simp [*]; done)), H', ⟨by have := HJ1.out; have := HK2.out; omega⟩, ⟨pxr HO_3⟩, ⟨pxq BK164⟩, ⟨pxb HB⟩⟩
      ·rw [if_neg c17] at H
       have c17b0 : decide (x22_2 < (wrap64 (a0_2 + 1))) = false := decide_eq_false c17
       clear c17
       obtain rfl := Option.some.inj H
       go_wp2
       go_ret
       exact ⟨_, by first | rfl | (simp [errW_none, errW_some] <;> rfl) | (simp [*, errW_none, errW_some] <;> rfl), pxr HO_3, pxb HB⟩

end Go.Proofs.Ytljchkghnmnpgaa.X
