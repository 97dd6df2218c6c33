/- What the program's functions answer, as Lean functions, and that each call does just that; no condition. Written by a program (px.py) out of the translation. -/
import Derived.Test.YtljchkghnmnpgaaX0
import Derived.Test.YtljchkghnmnpgaaX26
import Derived.Test.YtljchkghnmnpgaaX21
namespace Go.Proofs.Ytljchkghnmnpgaa.X
open Go.RowKit Go.Proofs.YtljchkghnmnpgaaW.PrintWords Go.Proofs.YtljchkghnmnpgaaW.PrintLast Go.Proofs.YtljchkghnmnpgaaW.PrintMore
attribute [local go_sem] max2_int min2_int max_two min_two max_three min_three max_four min_four   -- for this text's walks alone
set_option linter.unusedVariables false
set_option linter.unusedSimpArgs false

/-! ### kind_Array: function 19 -/
def kind_Array.j0 : Nat → Bool → Int → ByteArray → Int → ByteArray → Option (Int × ByteArray × Int × ByteArray × Int)
 | 0, _, _, _, _, _ => none
 | k + 1, x26, x153000, x153001, x153002, x153003 => if x26 = true then (some (0, (⟨#[]⟩ : ByteArray), 0, (⟨#[]⟩ : ByteArray), 130)) else (if x153002 = 4 then (some (0, (⟨#[]⟩ : ByteArray), 0, (⟨#[]⟩ : ByteArray), 2)) else (if x153003.size + 1 ≤ 9223372036854775807 then (some (x153000, x153001, wrap64 (x153002 + 1), x153003 ++ (⟨#[32]⟩ : ByteArray), 0)) else (none)))
def kind_Array.f (k : Nat) (a0_0 : Int) (a0_1 : ByteArray) (a0_2 : Int) (a0_3 : ByteArray) : Option (Int × ByteArray × Int × ByteArray × Int) := (kind_Right.f k a0_0 a0_1 a0_2 a0_3).bind fun t154 => (if t154 = true then (if a0_0 = 6 then (kind_Array.j0 k true a0_0 a0_1 a0_2 a0_3) else (if a0_0 = 7 then (kind_Array.j0 k true a0_0 a0_1 a0_2 a0_3) else (if a0_0 = 8 then (kind_Array.j0 k true a0_0 a0_1 a0_2 a0_3) else ((kind_Outer.f k a0_0 a0_1 a0_2 a0_3).bind fun t155 => (kind_Array.j0 k (t155 == 111) a0_0 a0_1 a0_2 a0_3))))) else (kind_Array.j0 k true a0_0 a0_1 a0_2 a0_3))
theorem kind_Array.mono_l : ∀ k, (∀ y0 y1 y2 y3 y4, LeO (kind_Array.j0 k y0 y1 y2 y3 y4) (kind_Array.j0 (k + 1) y0 y1 y2 y3 y4))
 | 0 => fun _ _ _ _ _ r h => by simp [kind_Array.j0] at h
 | k + 1 => by
  have ih0 := kind_Array.mono_l k
  ·intro y0 y1 y2 y3 y4
   unfold kind_Array.j0
   repeat' first
   | (with_reducible exact ih0 _ _ _ _ _)
   | (with_reducible exact kind_Outer.mono _ _ _ _ _)
   | (with_reducible exact kind_Right.mono _ _ _ _ _)
   | (with_reducible exact LeO.refl _)
   | (with_reducible exact LeO.none _)
   | (with_reducible refine LeO.ite ?_ ?_)
   | (with_reducible refine LeO.bind ?_ (fun _ => ?_))
   | exact ih0 _ _ _ _ _
   | exact kind_Outer.mono _ _ _ _ _
   | exact kind_Right.mono _ _ _ _ _
   | exact LeO.none _
   | refine LeO.ite ?_ ?_
   | refine LeO.bind ?_ (fun _ => ?_)
theorem kind_Array.mono : ∀ a0 a1 a2 a3 k, LeO (kind_Array.f k a0 a1 a2 a3) (kind_Array.f (k + 1) a0 a1 a2 a3) := by
 intro a0 a1 a2 a3 k
 have ih0 := kind_Array.mono_l k
 unfold kind_Array.f
 repeat' first
   | (with_reducible exact ih0 _ _ _ _ _)
   | (with_reducible exact kind_Outer.mono _ _ _ _ _)
   | (with_reducible exact kind_Right.mono _ _ _ _ _)
   | (with_reducible exact LeO.refl _)
   | (with_reducible exact LeO.none _)
   | (with_reducible refine LeO.ite ?_ ?_)
   | (with_reducible refine LeO.bind ?_ (fun _ => ?_))
   | exact ih0 _ _ _ _ _
   | exact kind_Outer.mono _ _ _ _ _
   | exact kind_Right.mono _ _ _ _ _
   | exact LeO.none _
   | refine LeO.ite ?_ ?_
   | refine LeO.bind ?_ (fun _ => ?_)
set_option maxHeartbeats 8000000 in
set_option maxRecDepth 100000 in
theorem kind_Array.calls (k : Nat) (a0_0 : Int) (a0_1 : ByteArray) (a0_2 : Int) (a0_3 : ByteArray) (r1 : Int) (r2 : ByteArray) (r3 : Int) (r4 : ByteArray) (r5 : Int) (w : World) (h : kind_Array.f k a0_0 a0_1 a0_2 a0_3 = some (r1, r2, r3, r4, r5)) :
  Calls Try.prog 19 #[.agg #[.int .i64 a0_0, .string a0_1, .int .i64 a0_2, .string a0_3]] w fun e w' => e = .returned (.tuple #[.agg #[.int .i64 r1, .string r2, .int .i64 r3, .string r4], .int .i64 r5]) ∧ Below w.heap.size w w' := by
 have hu23 := Try.underlying23
 have HB := Aside0.mk (Below.refl w.heap.size w)
 have H : ((kind_Right.f k a0_0 a0_1 a0_2 a0_3).bind fun t154 => (if t154 = true then (if a0_0 = 6 then (kind_Array.j0 k true a0_0 a0_1 a0_2 a0_3) else (if a0_0 = 7 then (kind_Array.j0 k true a0_0 a0_1 a0_2 a0_3) else (if a0_0 = 8 then (kind_Array.j0 k true a0_0 a0_1 a0_2 a0_3) else ((kind_Outer.f k a0_0 a0_1 a0_2 a0_3).bind fun t155 => (kind_Array.j0 k (t155 == 111) a0_0 a0_1 a0_2 a0_3))))) else (kind_Array.j0 k true a0_0 a0_1 a0_2 a0_3))) = some (r1, r2, r3, r4, r5) := h
 clear h
 have HC2 := Aside0.mk H
 clear H
 go_enter Try.func19, Try.ntmps19
 go_upto_region 1 with (first | ((with_reducible refine gate_dst (N := 1) rfl ?_); refine box_event ?hg (N := 1) ?hd (cs := #[.int .i64 a0_0, .string a0_1, .int .i64 a0_2, .string a0_3]) (t := 23) ?hr ?_; (case hd => rfl); (case hg => rfl); (case hr => first | (go_simp; done) | (go_simp; rfl)); intro gb152 hg w3 hbox hb; have n0_ := pxs HB hb; have n1_ := Aside0.mk (hbox); have n2_ := Aside0.mk ((by rw [hg]; exact (below_size (pxb HB)) : w.heap.size ≤ gb152)); have n3_ := Aside0.mk ((by rw [hg]; exact (below_size (pxb HB)) : w.heap.size ≤ gb152)); clear HB; have HB := n0_; have BK152 := n1_; have GW152 := n2_; have GE152 := n3_; clear n0_ n1_ n2_ n3_; clear hb hbox hg) | ((with_reducible refine gate_dst (N := 2) rfl ?_); refine box_event ?hg (N := 2) ?hd (cs := #[.int .i64 0, .string (⟨#[]⟩ : ByteArray), .int .i64 0, .string (⟨#[]⟩ : ByteArray)]) (t := 23) ?hr ?_; (case hd => rfl); (case hg => rfl); (case hr => first | (go_simp; done) | (go_simp; rfl)); intro gb153 hg w4 hbox hb; have n0_ := pxk BK152 hb; have n1_ := pxs HB hb; have n2_ := Aside0.mk (hbox); have n3_ := Aside0.mk ((by rw [hg]; exact (below_size (pxb HB)) : w.heap.size ≤ gb153)); have n4_ := Aside0.mk ((by rw [hg]; exact (below_size (pxb HB)) : w.heap.size ≤ gb153)); have n5_ := Aside0.mk ((by rw [hg]; exact Nat.ne_of_lt (blk_lt (g := gb152) (o := .cells #[.int .i64 a0_0, .string a0_1, .int .i64 a0_2, .string a0_3] 23 (0, 0)) (pxq BK152)) : gb152 ≠ gb153)); have n6_ := Aside0.mk ((by rw [hg]; exact Nat.ne_of_gt (blk_lt (g := gb152) (o := .cells #[.int .i64 a0_0, .string a0_1, .int .i64 a0_2, .string a0_3] 23 (0, 0)) (pxq BK152)) : gb153 ≠ gb152)); clear BK152; clear HB; have BK152 := n0_; have HB := n1_; have BK153 := n2_; have GW153 := n3_; have GE153 := n4_; have NB152_153 := n5_; have NB153_152 := n6_; clear n0_ n1_ n2_ n3_ n4_ n5_ n6_; clear hb hbox hg))
 (try simp only [Act.put, List.setIfInBounds_toArray, List.set_cons_zero, List.set_cons_succ])
 go_cut [26] (fun v26 wc => ∃ (kq : Nat) (x26_1 : Bool), v26 = .bool x26_1 ∧ Aside0 (kind_Array.j0 kq x26_1 a0_0 a0_1 a0_2 a0_3 = some (r1, r2, r3, r4, r5)) ∧ Aside0 (kq ≤ k) ∧ Aside0 (wc.heap[gb152]? = some (.cells #[.int .i64 a0_0, .string a0_1, .int .i64 a0_2, .string a0_3] 23 (0, 0))) ∧ Aside0 (wc.heap[gb153]? = some (.cells #[.int .i64 0, .string (⟨#[]⟩ : ByteArray), .int .i64 0, .string (⟨#[]⟩ : ByteArray)] 23 (0, 0))) ∧ Aside0 (Below w.heap.size w wc))
 case first =>
  have H := HC2.out
  clear HC2
  replace H := Option.bind_eq_some_iff.mp H
  obtain ⟨t154, A50, H⟩ := H
  replace H : (if t154 = true then (if a0_0 = 6 then (kind_Array.j0 k true a0_0 a0_1 a0_2 a0_3) else (if a0_0 = 7 then (kind_Array.j0 k true a0_0 a0_1 a0_2 a0_3) else (if a0_0 = 8 then (kind_Array.j0 k true a0_0 a0_1 a0_2 a0_3) else ((kind_Outer.f k a0_0 a0_1 a0_2 a0_3).bind fun t155 => (kind_Array.j0 k (t155 == 111) a0_0 a0_1 a0_2 a0_3))))) else (kind_Array.j0 k true a0_0 a0_1 a0_2 a0_3)) = some (r1, r2, r3, r4, r5) := H
  have A5 := Aside0.mk A50
  clear A50
  by_cases c6 : t154 = true
  ·subst c6
   have H1 : (if a0_0 = 6 then (kind_Array.j0 k true a0_0 a0_1 a0_2 a0_3) else (if a0_0 = 7 then (kind_Array.j0 k true a0_0 a0_1 a0_2 a0_3) else (if a0_0 = 8 then (kind_Array.j0 k true a0_0 a0_1 a0_2 a0_3) else ((kind_Outer.f k a0_0 a0_1 a0_2 a0_3).bind fun t155 => (kind_Array.j0 k (t155 == 111) a0_0 a0_1 a0_2 a0_3))))) = some (r1, r2, r3, r4, r5) := by rw [if_pos rfl] at H; exact H
   clear H
   have H := H1
   clear H1
   by_cases c7 : a0_0 = 6
   ·rw [if_pos c7] at H
    have c7b0 : (a0_0 == 6) = true := beq_iff_eq.mpr c7
    have c7b1 : (a0_0 != 6) = false := bne_eq_false_iff_eq.mpr c7
    clear c7
    (first | rw [c7b0] | (simp only [i64_w, i32_w]; rw [c7b0]) | skip)
    have H' := Aside0.mk H
    clear H
    have hnb8 := NB152_153.out
    have hnc8 := NB153_152.out
    have hcz9_0 : w4.cell? ⟨gb152, 0, none⟩ = some (.int .i64 a0_0) := (blk_cell BK152.out 0).trans rfl
    have hcz9_1 : w4.cell? ⟨gb152, 1, none⟩ = some (.string a0_1) := (blk_cell BK152.out 1).trans rfl
    have hcz9_2 : w4.cell? ⟨gb152, 2, none⟩ = some (.int .i64 a0_2) := (blk_cell BK152.out 2).trans rfl
    have hcz9_3 : w4.cell? ⟨gb152, 3, none⟩ = some (.string a0_3) := (blk_cell BK152.out 3).trans rfl
    have hfz9_0 := blk_frozen BK152.out 0
    have hfz9_1 := blk_frozen BK152.out 1
    have hfz9_2 := blk_frozen BK152.out 2
    have hfz9_3 := blk_frozen BK152.out 3
    go_wp2_with (first | ((with_reducible refine gate_callee (f := 26) rfl ?_); refine goesL_ (some 5) rfl rfl Try.func26 (by kernel_rfl) rfl #[.agg #[.int .i64 a0_0, .string a0_1, .int .i64 a0_2, .string a0_3]] rfl (by (try simp only [List.map_toArray, List.map_cons, List.map_nil]); first | done | rfl | (simp only [List.length_drop, List.length_take]; rfl)) ?_; (with_reducible refine (kind_Right.calls k a0_0 a0_1 a0_2 a0_3 true _ A5.out).mono ?_); rintro e w10 ⟨rfl, hb⟩; refine ⟨_, rfl, ?_⟩; have n0_ := pxk BK152 hb; have n1_ := pxk BK153 hb; have n2_ := pxs HB hb; clear BK152; clear BK153; clear HB; have BK152 := n0_; have BK153 := n1_; have HB := n2_; clear n0_ n1_ n2_; (try clear hb); (try clear hb2); (try clear hk); (try clear hi); have hcz11_0 : w10.cell? ⟨gb152, 0, none⟩ = some (.int .i64 a0_0) := (blk_cell BK152.out 0).trans rfl; have hcz11_1 : w10.cell? ⟨gb152, 1, none⟩ = some (.string a0_1) := (blk_cell BK152.out 1).trans rfl; have hcz11_2 : w10.cell? ⟨gb152, 2, none⟩ = some (.int .i64 a0_2) := (blk_cell BK152.out 2).trans rfl; have hcz11_3 : w10.cell? ⟨gb152, 3, none⟩ = some (.string a0_3) := (blk_cell BK152.out 3).trans rfl; have hfz11_0 := blk_frozen BK152.out 0; have hfz11_1 := blk_frozen BK152.out 1; have hfz11_2 := blk_frozen BK152.out 2; have hfz11_3 := blk_frozen BK152.out 3))
    go_meet
    case rel => exact ⟨_, (true), (by first | rfl | (simp; done) | (simp [*]; done)), H', ⟨by first | omega | exact Nat.le_refl _⟩, ⟨pxq BK152⟩, ⟨pxq BK153⟩, ⟨pxb HB⟩⟩
   ·rw [if_neg c7] at H
    have c7b0 : (a0_0 == 6) = false := beq_eq_false_iff_ne.mpr c7
    have c7b1 : (a0_0 != 6) = true := bne_iff_ne.mpr c7
    (first | rw [c7b0] | (simp only [i64_w, i32_w]; rw [c7b0]) | skip)
    by_cases c12 : a0_0 = 7
    ·rw [if_pos c12] at H
     have c12b0 : (a0_0 == 7) = true := beq_iff_eq.mpr c12
     have c12b1 : (a0_0 != 7) = false := bne_eq_false_iff_eq.mpr c12
     clear c12
     have H' := Aside0.mk H
     clear H
     have hnb13 := NB152_153.out
     have hnc13 := NB153_152.out
     have hcz14_0 : w4.cell? ⟨gb152, 0, none⟩ = some (.int .i64 a0_0) := (blk_cell BK152.out 0).trans rfl
     have hcz14_1 : w4.cell? ⟨gb152, 1, none⟩ = some (.string a0_1) := (blk_cell BK152.out 1).trans rfl
     have hcz14_2 : w4.cell? ⟨gb152, 2, none⟩ = some (.int .i64 a0_2) := (blk_cell BK152.out 2).trans rfl
     have hcz14_3 : w4.cell? ⟨gb152, 3, none⟩ = some (.string a0_3) := (blk_cell BK152.out 3).trans rfl
     have hfz14_0 := blk_frozen BK152.out 0
     have hfz14_1 := blk_frozen BK152.out 1
     have hfz14_2 := blk_frozen BK152.out 2
     have hfz14_3 := blk_frozen BK152.out 3
     go_wp2_with (first | ((with_reducible refine gate_callee (f := 26) rfl ?_); refine goesL_ (some 5) rfl rfl Try.func26 (by kernel_rfl) rfl #[.agg #[.int .i64 a0_0, .string a0_1, .int .i64 a0_2, .string a0_3]] rfl (by (try simp only [List.map_toArray, List.map_cons, List.map_nil]); first | done | rfl | (simp only [List.length_drop, List.length_take]; rfl)) ?_; (with_reducible refine (kind_Right.calls k a0_0 a0_1 a0_2 a0_3 true _ A5.out).mono ?_); rintro e w15 ⟨rfl, hb⟩; refine ⟨_, rfl, ?_⟩; have n0_ := pxk BK152 hb; have n1_ := pxk BK153 hb; have n2_ := pxs HB hb; clear BK152; clear BK153; clear HB; have BK152 := n0_; have BK153 := n1_; have HB := n2_; clear n0_ n1_ n2_; (try clear hb); (try clear hb2); (try clear hk); (try clear hi); have hcz16_0 : w15.cell? ⟨gb152, 0, none⟩ = some (.int .i64 a0_0) := (blk_cell BK152.out 0).trans rfl; have hcz16_1 : w15.cell? ⟨gb152, 1, none⟩ = some (.string a0_1) := (blk_cell BK152.out 1).trans rfl; have hcz16_2 : w15.cell? ⟨gb152, 2, none⟩ = some (.int .i64 a0_2) := (blk_cell BK152.out 2).trans rfl; have hcz16_3 : w15.cell? ⟨gb152, 3, none⟩ = some (.string a0_3) := (blk_cell BK152.out 3).trans rfl; have hfz16_0 := blk_frozen BK152.out 0; have hfz16_1 := blk_frozen BK152.out 1; have hfz16_2 := blk_frozen BK152.out 2; have hfz16_3 := blk_frozen BK152.out 3))
     go_meet
     case rel => exact ⟨_, (true), (by first | rfl | (simp; done) | (simp [*]; done)), H', ⟨by first | omega | exact Nat.le_refl _⟩, ⟨pxq BK152⟩, ⟨pxq BK153⟩, ⟨pxb HB⟩⟩
    ·rw [if_neg c12] at H
     have c12b0 : (a0_0 == 7) = false := beq_eq_false_iff_ne.mpr c12
     have c12b1 : (a0_0 != 7) = true := bne_iff_ne.mpr c12
     by_cases c17 : a0_0 = 8
     ·rw [if_pos c17] at H
      have c17b0 : (a0_0 == 8) = true := beq_iff_eq.mpr c17
      have c17b1 : (a0_0 != 8) = false := bne_eq_false_iff_eq.mpr c17
      clear c17
      have H' := Aside0.mk H
      clear H
      have hnb18 := NB152_153.out
      have hnc18 := NB153_152.out
      have hcz19_0 : w4.cell? ⟨gb152, 0, none⟩ = some (.int .i64 a0_0) := (blk_cell BK152.out 0).trans rfl
      have hcz19_1 : w4.cell? ⟨gb152, 1, none⟩ = some (.string a0_1) := (blk_cell BK152.out 1).trans rfl
      have hcz19_2 : w4.cell? ⟨gb152, 2, none⟩ = some (.int .i64 a0_2) := (blk_cell BK152.out 2).trans rfl
      have hcz19_3 : w4.cell? ⟨gb152, 3, none⟩ = some (.string a0_3) := (blk_cell BK152.out 3).trans rfl
      have hfz19_0 := blk_frozen BK152.out 0
      have hfz19_1 := blk_frozen BK152.out 1
      have hfz19_2 := blk_frozen BK152.out 2
      have hfz19_3 := blk_frozen BK152.out 3
      go_wp2_with (first | ((with_reducible refine gate_callee (f := 26) rfl ?_); refine goesL_ (some 5) rfl rfl Try.func26 (by kernel_rfl) rfl #[.agg #[.int .i64 a0_0, .string a0_1, .int .i64 a0_2, .string a0_3]] rfl (by (try simp only [List.map_toArray, List.map_cons, List.map_nil]); first | done | rfl | (simp only [List.length_drop, List.length_take]; rfl)) ?_; (with_reducible refine (kind_Right.calls k a0_0 a0_1 a0_2 a0_3 true _ A5.out).mono ?_); rintro e w20 ⟨rfl, hb⟩; refine ⟨_, rfl, ?_⟩; have n0_ := pxk BK152 hb; have n1_ := pxk BK153 hb; have n2_ := pxs HB hb; clear BK152; clear BK153; clear HB; have BK152 := n0_; have BK153 := n1_; have HB := n2_; clear n0_ n1_ n2_; (try clear hb); (try clear hb2); (try clear hk); (try clear hi); have hcz21_0 : w20.cell? ⟨gb152, 0, none⟩ = some (.int .i64 a0_0) := (blk_cell BK152.out 0).trans rfl; have hcz21_1 : w20.cell? ⟨gb152, 1, none⟩ = some (.string a0_1) := (blk_cell BK152.out 1).trans rfl; have hcz21_2 : w20.cell? ⟨gb152, 2, none⟩ = some (.int .i64 a0_2) := (blk_cell BK152.out 2).trans rfl; have hcz21_3 : w20.cell? ⟨gb152, 3, none⟩ = some (.string a0_3) := (blk_cell BK152.out 3).trans rfl; have hfz21_0 := blk_frozen BK152.out 0; have hfz21_1 := blk_frozen BK152.out 1; have hfz21_2 := blk_frozen BK152.out 2; have hfz21_3 := blk_frozen BK152.out 3))
      go_meet
      case rel => exact ⟨_, (true), (by first | rfl | (simp; done) | (simp [*]; done)), H', ⟨by first | omega | exact Nat.le_refl _⟩, ⟨pxq BK152⟩, ⟨pxq BK153⟩, ⟨pxb HB⟩⟩
     ·rw [if_neg c17] at H
      have c17b0 : (a0_0 == 8) = false := beq_eq_false_iff_ne.mpr c17
      have c17b1 : (a0_0 != 8) = true := bne_iff_ne.mpr c17
      replace H := Option.bind_eq_some_iff.mp H
      obtain ⟨t155, A220, H⟩ := H
      replace H : (kind_Array.j0 k (t155 == 111) a0_0 a0_1 a0_2 a0_3) = some (r1, r2, r3, r4, r5) := H
      have A22 := Aside0.mk A220
      clear A220
      have H' := Aside0.mk H
      clear H
      have hnb23 := NB152_153.out
      have hnc23 := NB153_152.out
      have hcz24_0 : w4.cell? ⟨gb152, 0, none⟩ = some (.int .i64 a0_0) := (blk_cell BK152.out 0).trans rfl
      have hcz24_1 : w4.cell? ⟨gb152, 1, none⟩ = some (.string a0_1) := (blk_cell BK152.out 1).trans rfl
      have hcz24_2 : w4.cell? ⟨gb152, 2, none⟩ = some (.int .i64 a0_2) := (blk_cell BK152.out 2).trans rfl
      have hcz24_3 : w4.cell? ⟨gb152, 3, none⟩ = some (.string a0_3) := (blk_cell BK152.out 3).trans rfl
      have hfz24_0 := blk_frozen BK152.out 0
      have hfz24_1 := blk_frozen BK152.out 1
      have hfz24_2 := blk_frozen BK152.out 2
      have hfz24_3 := blk_frozen BK152.out 3
      go_wp2_with (first | ((with_reducible refine gate_callee (f := 26) rfl ?_); refine goesL_ (some 5) rfl rfl Try.func26 (by kernel_rfl) rfl #[.agg #[.int .i64 a0_0, .string a0_1, .int .i64 a0_2, .string a0_3]] rfl (by (try simp only [List.map_toArray, List.map_cons, List.map_nil]); first | done | rfl | (simp only [List.length_drop, List.length_take]; rfl)) ?_; (with_reducible refine (kind_Right.calls k a0_0 a0_1 a0_2 a0_3 true _ A5.out).mono ?_); rintro e w25 ⟨rfl, hb⟩; refine ⟨_, rfl, ?_⟩; have n0_ := pxk BK152 hb; have n1_ := pxk BK153 hb; have n2_ := pxs HB hb; clear BK152; clear BK153; clear HB; have BK152 := n0_; have BK153 := n1_; have HB := n2_; clear n0_ n1_ n2_; (try clear hb); (try clear hb2); (try clear hk); (try clear hi); have hcz26_0 : w25.cell? ⟨gb152, 0, none⟩ = some (.int .i64 a0_0) := (blk_cell BK152.out 0).trans rfl; have hcz26_1 : w25.cell? ⟨gb152, 1, none⟩ = some (.string a0_1) := (blk_cell BK152.out 1).trans rfl; have hcz26_2 : w25.cell? ⟨gb152, 2, none⟩ = some (.int .i64 a0_2) := (blk_cell BK152.out 2).trans rfl; have hcz26_3 : w25.cell? ⟨gb152, 3, none⟩ = some (.string a0_3) := (blk_cell BK152.out 3).trans rfl; have hfz26_0 := blk_frozen BK152.out 0; have hfz26_1 := blk_frozen BK152.out 1; have hfz26_2 := blk_frozen BK152.out 2; have hfz26_3 := blk_frozen BK152.out 3) | (go_at_call 21; (with_reducible refine (kind_Outer.calls k a0_0 a0_1 a0_2 a0_3 t155 _ A22.out).mono ?_); rintro e w27 ⟨rfl, hb⟩; have n0_ := pxk BK152 hb; have n1_ := pxk BK153 hb; have n2_ := pxs HB hb; clear BK152; clear BK153; clear HB; have BK152 := n0_; have BK153 := n1_; have HB := n2_; clear n0_ n1_ n2_; (try clear hb); (try clear hb2); (try clear hk); (try clear hi)))
      go_meet
      case rel => exact ⟨_, ((t155 == 111)), (by first | rfl | (simp; done) | (simp [*]; done)), H', ⟨by first | omega | exact Nat.le_refl _⟩, ⟨pxq BK152⟩, ⟨pxq BK153⟩, ⟨pxb HB⟩⟩
  ·replace c6 := Bool.eq_false_iff.mpr c6
   subst c6
   have H1 : (kind_Array.j0 k true a0_0 a0_1 a0_2 a0_3) = some (r1, r2, r3, r4, r5) := by rw [if_neg (show ¬ (false = true) by decide)] at H; exact H
   clear H
   have H := H1
   clear H1
   have H' := Aside0.mk H
   clear H
   have hnb28 := NB152_153.out
   have hnc28 := NB153_152.out
   have hcz29_0 : w4.cell? ⟨gb152, 0, none⟩ = some (.int .i64 a0_0) := (blk_cell BK152.out 0).trans rfl
   have hcz29_1 : w4.cell? ⟨gb152, 1, none⟩ = some (.string a0_1) := (blk_cell BK152.out 1).trans rfl
   have hcz29_2 : w4.cell? ⟨gb152, 2, none⟩ = some (.int .i64 a0_2) := (blk_cell BK152.out 2).trans rfl
   have hcz29_3 : w4.cell? ⟨gb152, 3, none⟩ = some (.string a0_3) := (blk_cell BK152.out 3).trans rfl
   have hfz29_0 := blk_frozen BK152.out 0
   have hfz29_1 := blk_frozen BK152.out 1
   have hfz29_2 := blk_frozen BK152.out 2
   have hfz29_3 := blk_frozen BK152.out 3
   go_wp2_with (first | ((with_reducible refine gate_callee (f := 26) rfl ?_); refine goesL_ (some 5) rfl rfl Try.func26 (by kernel_rfl) rfl #[.agg #[.int .i64 a0_0, .string a0_1, .int .i64 a0_2, .string a0_3]] rfl (by (try simp only [List.map_toArray, List.map_cons, List.map_nil]); first | done | rfl | (simp only [List.length_drop, List.length_take]; rfl)) ?_; (with_reducible refine (kind_Right.calls k a0_0 a0_1 a0_2 a0_3 false _ A5.out).mono ?_); rintro e w30 ⟨rfl, hb⟩; refine ⟨_, rfl, ?_⟩; have n0_ := pxk BK152 hb; have n1_ := pxk BK153 hb; have n2_ := pxs HB hb; clear BK152; clear BK153; clear HB; have BK152 := n0_; have BK153 := n1_; have HB := n2_; clear n0_ n1_ n2_; (try clear hb); (try clear hb2); (try clear hk); (try clear hi)))
   go_meet
   case rel => exact ⟨_, (true), (by first | rfl | (simp; done) | (simp [*]; done)), H', ⟨by first | omega | exact Nat.le_refl _⟩, ⟨pxq BK152⟩, ⟨pxq BK153⟩, ⟨pxb HB⟩⟩
 case rest =>
  clear HC2
  try clear c1
  try clear c2
  try clear p2
  try clear c6
  try clear c7
  try clear c7b0
  try clear c7b1
  try clear c8
  try clear c12
  try clear c12b0
  try clear c12b1
  try clear c13
  try clear c17
  try clear c17b0
  try clear c17b1
  try clear c18
  try clear c19
  try clear c23
  try clear c26
  try clear c28
  try clear hcz11_0
  try clear hcz11_1
  try clear hcz11_2
  try clear hcz11_3
  try clear hcz14_0
  try clear hcz14_1
  try clear hcz14_2
  try clear hcz14_3
  try clear hcz16_0
  try clear hcz16_1
  try clear hcz16_2
  try clear hcz16_3
  try clear hcz19_0
  try clear hcz19_1
  try clear hcz19_2
  try clear hcz19_3
  try clear hcz21_0
  try clear hcz21_1
  try clear hcz21_2
  try clear hcz21_3
  try clear hcz24_0
  try clear hcz24_1
  try clear hcz24_2
  try clear hcz24_3
  try clear hcz26_0
  try clear hcz26_1
  try clear hcz26_2
  try clear hcz26_3
  try clear hcz29_0
  try clear hcz29_1
  try clear hcz29_2
  try clear hcz29_3
  try clear hcz9_0
  try clear hcz9_1
  try clear hcz9_2
  try clear hcz9_3
  try clear hfz11_0
  try clear hfz11_1
  try clear hfz11_2
  try clear hfz11_3
  try clear hfz14_0
  try clear hfz14_1
  try clear hfz14_2
  try clear hfz14_3
  try clear hfz16_0
  try clear hfz16_1
  try clear hfz16_2
  try clear hfz16_3
  try clear hfz19_0
  try clear hfz19_1
  try clear hfz19_2
  try clear hfz19_3
  try clear hfz21_0
  try clear hfz21_1
  try clear hfz21_2
  try clear hfz21_3
  try clear hfz24_0
  try clear hfz24_1
  try clear hfz24_2
  try clear hfz24_3
  try clear hfz26_0
  try clear hfz26_1
  try clear hfz26_2
  try clear hfz26_3
  try clear hfz29_0
  try clear hfz29_1
  try clear hfz29_2
  try clear hfz29_3
  try clear hfz9_0
  try clear hfz9_1
  try clear hfz9_2
  try clear hfz9_3
  obtain ⟨kq, x26_1, rfl, HA, HJ1, BK152, BK153, HB⟩ := hcut
  cases kq with
  | zero => exact absurd HA.out (by simp [kind_Array.j0])
  | succ kj1 =>
   have H := HA.out
   clear HA
   simp only [kind_Array.j0] at H
   by_cases c31 : x26_1 = true
   ·subst c31
    have H1 : (some (0, (⟨#[]⟩ : ByteArray), 0, (⟨#[]⟩ : ByteArray), 130)) = some (r1, r2, r3, r4, r5) := by rw [if_pos rfl] at H; exact H
    clear H
    have H := H1
    clear H1
    simp only [Option.some.injEq, Prod.mk.injEq] at H
    obtain ⟨rfl, rfl, rfl, rfl, rfl⟩ := H
    have hnb32 := NB153_152.out
    have hnc32 := NB152_153.out
    have hcz33_0 : wc.cell? ⟨gb153, 0, none⟩ = some (.int .i64 0) := (blk_cell BK153.out 0).trans rfl
    have hcz33_1 : wc.cell? ⟨gb153, 1, none⟩ = some (.string (⟨#[]⟩ : ByteArray)) := (blk_cell BK153.out 1).trans rfl
    have hcz33_2 : wc.cell? ⟨gb153, 2, none⟩ = some (.int .i64 0) := (blk_cell BK153.out 2).trans rfl
    have hcz33_3 : wc.cell? ⟨gb153, 3, none⟩ = some (.string (⟨#[]⟩ : ByteArray)) := (blk_cell BK153.out 3).trans rfl
    have hfz33_0 := blk_frozen BK153.out 0
    have hfz33_1 := blk_frozen BK153.out 1
    have hfz33_2 := blk_frozen BK153.out 2
    have hfz33_3 := blk_frozen BK153.out 3
    go_wp2
    refine bodyPost_ret (results_ct rfl _ _ gb153 23 #[.int .i64 0, .string (⟨#[]⟩ : ByteArray), .int .i64 0, .string (⟨#[]⟩ : ByteArray)] (0, 0) _ rfl (by (with_reducible repeat (first | refine blk_drewN ?_ _ | refine blk_drew ?_ | refine blk_alloc ?_ _)); refine blk_put (cs := #[.int .i64 0, .string (⟨#[]⟩ : ByteArray), .int .i64 0, .string (⟨#[]⟩ : ByteArray)]) ?_ 3 _ rfl; (with_reducible repeat (first | refine blk_drewN ?_ _ | refine blk_drew ?_ | refine blk_alloc ?_ _)); refine blk_put (cs := #[.int .i64 0, .string (⟨#[]⟩ : ByteArray), .int .i64 0, .string (⟨#[]⟩ : ByteArray)]) ?_ 2 _ rfl; (with_reducible repeat (first | refine blk_drewN ?_ _ | refine blk_drew ?_ | refine blk_alloc ?_ _)); refine blk_put (cs := #[.int .i64 0, .string (⟨#[]⟩ : ByteArray), .int .i64 0, .string (⟨#[]⟩ : ByteArray)]) ?_ 1 _ rfl; (with_reducible repeat (first | refine blk_drewN ?_ _ | refine blk_drew ?_ | refine blk_alloc ?_ _)); refine blk_put (cs := #[.int .i64 0, .string (⟨#[]⟩ : ByteArray), .int .i64 0, .string (⟨#[]⟩ : ByteArray)]) ?_ 0 _ rfl; (with_reducible repeat (first | refine blk_drewN ?_ _ | refine blk_drew ?_ | refine blk_alloc ?_ _)); exact BK153.out) Try.underlying23 rfl (by kernel_rfl)) rfl ?_
    exact ⟨by first | rfl | (simp [errW_none, errW_some] <;> rfl) | (simp [*, errW_none, errW_some] <;> rfl), pxb HB⟩
   ·replace c31 := Bool.eq_false_iff.mpr c31
    subst c31
    have H1 : (if a0_2 = 4 then (some (0, (⟨#[]⟩ : ByteArray), 0, (⟨#[]⟩ : ByteArray), 2)) else (if a0_3.size + 1 ≤ 9223372036854775807 then (some (a0_0, a0_1, wrap64 (a0_2 + 1), a0_3 ++ (⟨#[32]⟩ : ByteArray), 0)) else (none))) = some (r1, r2, r3, r4, r5) := by rw [if_neg (show ¬ (false = true) by decide)] at H; exact H
    clear H
    have H := H1
    clear H1
    by_cases c34 : a0_2 = 4
    ·rw [if_pos c34] at H
     have c34b0 : (a0_2 == 4) = true := beq_iff_eq.mpr c34
     have c34b1 : (a0_2 != 4) = false := bne_eq_false_iff_eq.mpr c34
     clear c34
     simp only [Option.some.injEq, Prod.mk.injEq] at H
     obtain ⟨rfl, rfl, rfl, rfl, rfl⟩ := H
     have hnb35 := NB152_153.out
     have hnc35 := NB153_152.out
     have hcz36_0 : wc.cell? ⟨gb152, 0, none⟩ = some (.int .i64 a0_0) := (blk_cell BK152.out 0).trans rfl
     have hcz36_1 : wc.cell? ⟨gb152, 1, none⟩ = some (.string a0_1) := (blk_cell BK152.out 1).trans rfl
     have hcz36_2 : wc.cell? ⟨gb152, 2, none⟩ = some (.int .i64 a0_2) := (blk_cell BK152.out 2).trans rfl
     have hcz36_3 : wc.cell? ⟨gb152, 3, none⟩ = some (.string a0_3) := (blk_cell BK152.out 3).trans rfl
     have hfz36_0 := blk_frozen BK152.out 0
     have hfz36_1 := blk_frozen BK152.out 1
     have hfz36_2 := blk_frozen BK152.out 2
     have hfz36_3 := blk_frozen BK152.out 3
     have hcz37_0 : wc.cell? ⟨gb153, 0, none⟩ = some (.int .i64 0) := (blk_cell BK153.out 0).trans rfl
     have hcz37_1 : wc.cell? ⟨gb153, 1, none⟩ = some (.string (⟨#[]⟩ : ByteArray)) := (blk_cell BK153.out 1).trans rfl
     have hcz37_2 : wc.cell? ⟨gb153, 2, none⟩ = some (.int .i64 0) := (blk_cell BK153.out 2).trans rfl
     have hcz37_3 : wc.cell? ⟨gb153, 3, none⟩ = some (.string (⟨#[]⟩ : ByteArray)) := (blk_cell BK153.out 3).trans rfl
     have hfz37_0 := blk_frozen BK153.out 0
     have hfz37_1 := blk_frozen BK153.out 1
     have hfz37_2 := blk_frozen BK153.out 2
     have hfz37_3 := blk_frozen BK153.out 3
     go_wp2
     refine bodyPost_ret (results_ct rfl _ _ gb153 23 #[.int .i64 0, .string (⟨#[]⟩ : ByteArray), .int .i64 0, .string (⟨#[]⟩ : ByteArray)] (0, 0) _ rfl (by (with_reducible repeat (first | refine blk_drewN ?_ _ | refine blk_drew ?_ | refine blk_alloc ?_ _)); refine blk_put (cs := #[.int .i64 0, .string (⟨#[]⟩ : ByteArray), .int .i64 0, .string (⟨#[]⟩ : ByteArray)]) ?_ 3 _ rfl; (with_reducible repeat (first | refine blk_drewN ?_ _ | refine blk_drew ?_ | refine blk_alloc ?_ _)); refine blk_put (cs := #[.int .i64 0, .string (⟨#[]⟩ : ByteArray), .int .i64 0, .string (⟨#[]⟩ : ByteArray)]) ?_ 2 _ rfl; (with_reducible repeat (first | refine blk_drewN ?_ _ | refine blk_drew ?_ | refine blk_alloc ?_ _)); refine blk_put (cs := #[.int .i64 0, .string (⟨#[]⟩ : ByteArray), .int .i64 0, .string (⟨#[]⟩ : ByteArray)]) ?_ 1 _ rfl; (with_reducible repeat (first | refine blk_drewN ?_ _ | refine blk_drew ?_ | refine blk_alloc ?_ _)); refine blk_put (cs := #[.int .i64 0, .string (⟨#[]⟩ : ByteArray), .int .i64 0, .string (⟨#[]⟩ : ByteArray)]) ?_ 0 _ rfl; (with_reducible repeat (first | refine blk_drewN ?_ _ | refine blk_drew ?_ | refine blk_alloc ?_ _)); exact BK153.out) Try.underlying23 rfl (by kernel_rfl)) rfl ?_
     exact ⟨by first | rfl | (simp [errW_none, errW_some] <;> rfl) | (simp [*, errW_none, errW_some] <;> rfl), pxb HB⟩
    ·rw [if_neg c34] at H
     have c34b0 : (a0_2 == 4) = false := beq_eq_false_iff_ne.mpr c34
     have c34b1 : (a0_2 != 4) = true := bne_iff_ne.mpr c34
     by_cases c38 : a0_3.size + 1 ≤ 9223372036854775807
     ·rw [if_pos c38] at H
      have c38b0 := eq_true c38
      have c38b1 : decide (a0_3.size + 1 ≤ 9223372036854775807) = true := decide_eq_true c38
      try have c38b2 : (9223372036854775807 < a0_3.size + 1) = False := eq_false (Nat.not_lt.2 c38)
      simp only [Option.some.injEq, Prod.mk.injEq] at H
      obtain ⟨rfl, rfl, rfl, rfl, rfl⟩ := H
      have hnb39 := NB152_153.out
      have hnc39 := NB153_152.out
      have hcz40_0 : wc.cell? ⟨gb152, 0, none⟩ = some (.int .i64 a0_0) := (blk_cell BK152.out 0).trans rfl
      have hcz40_1 : wc.cell? ⟨gb152, 1, none⟩ = some (.string a0_1) := (blk_cell BK152.out 1).trans rfl
      have hcz40_2 : wc.cell? ⟨gb152, 2, none⟩ = some (.int .i64 a0_2) := (blk_cell BK152.out 2).trans rfl
      have hcz40_3 : wc.cell? ⟨gb152, 3, none⟩ = some (.string a0_3) := (blk_cell BK152.out 3).trans rfl
      have hfz40_0 := blk_frozen BK152.out 0
      have hfz40_1 := blk_frozen BK152.out 1
      have hfz40_2 := blk_frozen BK152.out 2
      have hfz40_3 := blk_frozen BK152.out 3
      have hcz41_0 : wc.cell? ⟨gb153, 0, none⟩ = some (.int .i64 0) := (blk_cell BK153.out 0).trans rfl
      have hcz41_1 : wc.cell? ⟨gb153, 1, none⟩ = some (.string (⟨#[]⟩ : ByteArray)) := (blk_cell BK153.out 1).trans rfl
      have hcz41_2 : wc.cell? ⟨gb153, 2, none⟩ = some (.int .i64 0) := (blk_cell BK153.out 2).trans rfl
      have hcz41_3 : wc.cell? ⟨gb153, 3, none⟩ = some (.string (⟨#[]⟩ : ByteArray)) := (blk_cell BK153.out 3).trans rfl
      have hfz41_0 := blk_frozen BK153.out 0
      have hfz41_1 := blk_frozen BK153.out 1
      have hfz41_2 := blk_frozen BK153.out 2
      have hfz41_3 := blk_frozen BK153.out 3
      go_wp2
      refine bodyPost_ret (results_ct rfl _ _ gb153 23 #[.int .i64 a0_0, .string a0_1, .int .i64 (wrap64 (a0_2 + 1)), .string (a0_3 ++ (⟨#[32]⟩ : ByteArray))] (0, 0) _ rfl (by (with_reducible repeat (first | refine blk_drewN ?_ _ | refine blk_drew ?_ | refine blk_alloc ?_ _)); refine blk_put (cs := #[.int .i64 a0_0, .string a0_1, .int .i64 (wrap64 (a0_2 + 1)), .string (⟨#[]⟩ : ByteArray)]) ?_ 3 _ rfl; (with_reducible repeat (first | refine blk_drewN ?_ _ | refine blk_drew ?_ | refine blk_alloc ?_ _)); refine blk_put (cs := #[.int .i64 a0_0, .string a0_1, .int .i64 0, .string (⟨#[]⟩ : ByteArray)]) ?_ 2 _ rfl; (with_reducible repeat (first | refine blk_drewN ?_ _ | refine blk_drew ?_ | refine blk_alloc ?_ _)); refine blk_put (cs := #[.int .i64 a0_0, .string (⟨#[]⟩ : ByteArray), .int .i64 0, .string (⟨#[]⟩ : ByteArray)]) ?_ 1 _ rfl; (with_reducible repeat (first | refine blk_drewN ?_ _ | refine blk_drew ?_ | refine blk_alloc ?_ _)); refine blk_put (cs := #[.int .i64 0, .string (⟨#[]⟩ : ByteArray), .int .i64 0, .string (⟨#[]⟩ : ByteArray)]) ?_ 0 _ rfl; (with_reducible repeat (first | refine blk_drewN ?_ _ | refine blk_drew ?_ | refine blk_alloc ?_ _)); refine blk_far ?_ NB153_152.out _; (with_reducible repeat (first | refine blk_drewN ?_ _ | refine blk_drew ?_ | refine blk_alloc ?_ _)); refine blk_far ?_ NB153_152.out _; (with_reducible repeat (first | refine blk_drewN ?_ _ | refine blk_drew ?_ | refine blk_alloc ?_ _)); exact BK153.out) Try.underlying23 rfl (by kernel_rfl)) rfl ?_
      exact ⟨by first | rfl | (simp [errW_none, errW_some] <;> rfl) | (simp [*, errW_none, errW_some] <;> rfl), pxb HB⟩
     ·rw [if_neg c38] at H
      exact absurd H (by simp)

end Go.Proofs.Ytljchkghnmnpgaa.X
