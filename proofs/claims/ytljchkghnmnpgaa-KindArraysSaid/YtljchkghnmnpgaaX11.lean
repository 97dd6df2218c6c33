/- What the program's functions answer, as Lean functions, and that each call does just that; no condition. Written by a program (px.py) out of the translation. -/
import Derived.Test.YtljchkghnmnpgaaX0
import Derived.Test.YtljchkghnmnpgaaXE23
import Derived.Test.YtljchkghnmnpgaaX18
import Derived.Test.YtljchkghnmnpgaaShort2
namespace Go.Proofs.Ytljchkghnmnpgaa.X
open Go.RowKit Go.Proofs.YtljchkghnmnpgaaW.PrintWords Go.Proofs.YtljchkghnmnpgaaW.PrintLast Go.Proofs.YtljchkghnmnpgaaW.PrintMore
attribute [local go_sem] max2_int min2_int max_two min_two max_three min_three max_four min_four   -- for this text's walks alone
set_option linter.unusedVariables false
set_option linter.unusedSimpArgs false

attribute [local go_sem high] eqA23
/-! ### caulkerlaw10_right: function 11 -/
def caulkerlaw10_right.f (k : Nat) (a0_0 : Int) (a0_1 : ByteArray) (a0_2 : Int) (a0_3 : ByteArray) : Option (Bool) := (caulkerref07_Right.f k a0_0 a0_1 a0_2 a0_3).bind fun t232 => (if t232 = true then (some true) else (if (a0_0 == 7 && (a0_1.toList == ([] : List UInt8) && (a0_2 == 0 && (a0_3.toList == ([63] : List UInt8))))) = true then (some true) else (some (a0_0 == 8 && (a0_1.toList == ([] : List UInt8) && (a0_2 == 0 && (a0_3.toList == ([111] : List UInt8))))))))
theorem caulkerlaw10_right.mono : ∀ a0 a1 a2 a3 k, LeO (caulkerlaw10_right.f k a0 a1 a2 a3) (caulkerlaw10_right.f (k + 1) a0 a1 a2 a3) := by
 intro a0 a1 a2 a3 k
 unfold caulkerlaw10_right.f
 repeat' first
   | (with_reducible exact caulkerref07_Right.mono _ _ _ _ _)
   | (with_reducible exact LeO.refl _)
   | (with_reducible exact LeO.none _)
   | (with_reducible refine LeO.ite ?_ ?_)
   | (with_reducible refine LeO.bind ?_ (fun _ => ?_))
   | exact caulkerref07_Right.mono _ _ _ _ _
   | exact LeO.none _
   | refine LeO.ite ?_ ?_
   | refine LeO.bind ?_ (fun _ => ?_)
set_option maxHeartbeats 8000000 in
set_option maxRecDepth 100000 in
theorem caulkerlaw10_right.calls (k : Nat) (a0_0 : Int) (a0_1 : ByteArray) (a0_2 : Int) (a0_3 : ByteArray) (r : Bool) (w : World) (h : caulkerlaw10_right.f k a0_0 a0_1 a0_2 a0_3 = some r) :
  Calls Try.prog 11 #[.agg #[.int .i64 a0_0, .string a0_1, .int .i64 a0_2, .string a0_3]] w fun e w' => e = .returned (.bool r) ∧ Below w.heap.size w w' := by
 have hu23 := Try.underlying23
 have HB := Aside0.mk (Below.refl w.heap.size w)
 have H : ((caulkerref07_Right.f k a0_0 a0_1 a0_2 a0_3).bind fun t232 => (if t232 = true then (some true) else (if (a0_0 == 7 && (a0_1.toList == ([] : List UInt8) && (a0_2 == 0 && (a0_3.toList == ([63] : List UInt8))))) = true then (some true) else (some (a0_0 == 8 && (a0_1.toList == ([] : List UInt8) && (a0_2 == 0 && (a0_3.toList == ([111] : List UInt8))))))))) = some r := h
 clear h
 replace H := Option.bind_eq_some_iff.mp H
 obtain ⟨t232, A20, H⟩ := H
 replace H : (if t232 = true then (some true) else (if (a0_0 == 7 && (a0_1.toList == ([] : List UInt8) && (a0_2 == 0 && (a0_3.toList == ([63] : List UInt8))))) = true then (some true) else (some (a0_0 == 8 && (a0_1.toList == ([] : List UInt8) && (a0_2 == 0 && (a0_3.toList == ([111] : List UInt8)))))))) = some r := H
 have A2 := Aside0.mk A20
 clear A20
 by_cases c3 : t232 = true
 ·subst c3
  have H1 : (some true) = some r := by rw [if_pos rfl] at H; exact H
  clear H
  have H := H1
  clear H1
  obtain rfl := Option.some.inj H
  go_enter Try.func11, Try.ntmps11
  go_wp2_with (first | ((with_reducible refine gate_dst (N := 1) rfl ?_); refine box_event ?hg (N := 1) ?hd (cs := #[.int .i64 a0_0, .string a0_1, .int .i64 a0_2, .string a0_3]) (t := 23) ?hr ?_; (case hd => rfl); (case hg => rfl); (case hr => first | (go_simp; done) | (go_simp; rfl)); intro gb231 hg w4 hbox hb; have n0_ := pxs HB hb; have n1_ := Aside0.mk (hbox); have n2_ := Aside0.mk ((by rw [hg]; exact (below_size (pxb HB)) : w.heap.size ≤ gb231)); have n3_ := Aside0.mk ((by rw [hg]; exact (below_size (pxb HB)) : w.heap.size ≤ gb231)); clear HB; have HB := n0_; have BK231 := n1_; have GW231 := n2_; have GE231 := n3_; clear n0_ n1_ n2_ n3_; clear hb hbox hg; have hcz5_0 : w4.cell? ⟨gb231, 0, none⟩ = some (.int .i64 a0_0) := (blk_cell BK231.out 0).trans rfl; have hcz5_1 : w4.cell? ⟨gb231, 1, none⟩ = some (.string a0_1) := (blk_cell BK231.out 1).trans rfl; have hcz5_2 : w4.cell? ⟨gb231, 2, none⟩ = some (.int .i64 a0_2) := (blk_cell BK231.out 2).trans rfl; have hcz5_3 : w4.cell? ⟨gb231, 3, none⟩ = some (.string a0_3) := (blk_cell BK231.out 3).trans rfl; have hfz5_0 := blk_frozen BK231.out 0; have hfz5_1 := blk_frozen BK231.out 1; have hfz5_2 := blk_frozen BK231.out 2; have hfz5_3 := blk_frozen BK231.out 3) | ((with_reducible refine gate_callee (f := 18) rfl ?_); refine goesL_ (some 4) rfl rfl Try.func18 (by kernel_rfl) rfl #[.agg #[.int .i64 a0_0, .string a0_1, .int .i64 a0_2, .string a0_3]] rfl (by (try simp only [List.map_toArray, List.map_cons, List.map_nil]); first | done | rfl | (simp only [List.length_drop, List.length_take]; rfl)) ?_; (with_reducible refine (caulkerref07_Right.calls k a0_0 a0_1 a0_2 a0_3 true _ A2.out).mono ?_); rintro e w6 ⟨rfl, hb⟩; refine ⟨_, rfl, ?_⟩; have n0_ := pxk BK231 hb; have n1_ := pxs HB hb; clear BK231; clear HB; have BK231 := n0_; have HB := n1_; clear n0_ n1_; (try clear hb); (try clear hb2); (try clear hk); (try clear hi)))
  go_ret
  exact ⟨by first | rfl | (simp [errW_none, errW_some] <;> rfl) | (simp [*, errW_none, errW_some] <;> rfl) | (simp [*, pxbeq, pxbne, errW_none, errW_some]; done), pxb HB⟩
 ·replace c3 := Bool.eq_false_iff.mpr c3
  subst c3
  have H1 : (if (a0_0 == 7 && (a0_1.toList == ([] : List UInt8) && (a0_2 == 0 && (a0_3.toList == ([63] : List UInt8))))) = true then (some true) else (some (a0_0 == 8 && (a0_1.toList == ([] : List UInt8) && (a0_2 == 0 && (a0_3.toList == ([111] : List UInt8))))))) = some r := by rw [if_neg (show ¬ (false = true) by decide)] at H; exact H
  clear H
  have H := H1
  clear H1
  by_cases c7 : (a0_0 == 7 && (a0_1.toList == ([] : List UInt8) && (a0_2 == 0 && (a0_3.toList == ([63] : List UInt8))))) = true
  ·rw [if_pos c7] at H
   have c7b0 : (a0_0 == 7 && (a0_1.toList == ([] : List UInt8) && (a0_2 == 0 && (a0_3.toList == ([63] : List UInt8))))) = true := c7
   (try (have c7b0e : (a0_0 == 7 && (a0_1.toList.isEmpty && (a0_2 == 0 && (a0_3.toList == ([63] : List UInt8))))) = true := by simpa only [pxbeq, pxbne] using c7b0))
   (try (have c7b1 : decide (a0_0 = 7 && (a0_1.toList == ([] : List UInt8) && (a0_2 == 0 && (a0_3.toList == ([63] : List UInt8))))) = true := by simpa using c7))
   (try (have c7b1e : decide (a0_0 = 7 && (a0_1.toList.isEmpty && (a0_2 == 0 && (a0_3.toList == ([63] : List UInt8))))) = true := by simpa only [pxbeq, pxbne] using c7b1))
   (try (have c7b2 : (a0_0 == 7 && (a0_1.toList == ([] : List UInt8) && (a0_2 == 0 && (a0_3.toList == ([63] : List UInt8))))) = true := by simpa using c7))
   (try (have c7b2e : (a0_0 == 7 && (a0_1.toList.isEmpty && (a0_2 == 0 && (a0_3.toList == ([63] : List UInt8))))) = true := by simpa only [pxbeq, pxbne] using c7b2))
   clear c7
   obtain rfl := Option.some.inj H
   go_enter Try.func11, Try.ntmps11
   go_wp2_with (first | ((with_reducible refine gate_dst (N := 1) rfl ?_); refine box_event ?hg (N := 1) ?hd (cs := #[.int .i64 a0_0, .string a0_1, .int .i64 a0_2, .string a0_3]) (t := 23) ?hr ?_; (case hd => rfl); (case hg => rfl); (case hr => first | (go_simp; done) | (go_simp; rfl)); intro gb231 hg w8 hbox hb; have n0_ := pxs HB hb; have n1_ := Aside0.mk (hbox); have n2_ := Aside0.mk ((by rw [hg]; exact (below_size (pxb HB)) : w.heap.size ≤ gb231)); have n3_ := Aside0.mk ((by rw [hg]; exact (below_size (pxb HB)) : w.heap.size ≤ gb231)); clear HB; have HB := n0_; have BK231 := n1_; have GW231 := n2_; have GE231 := n3_; clear n0_ n1_ n2_ n3_; clear hb hbox hg; have hcz9_0 : w8.cell? ⟨gb231, 0, none⟩ = some (.int .i64 a0_0) := (blk_cell BK231.out 0).trans rfl; have hcz9_1 : w8.cell? ⟨gb231, 1, none⟩ = some (.string a0_1) := (blk_cell BK231.out 1).trans rfl; have hcz9_2 : w8.cell? ⟨gb231, 2, none⟩ = some (.int .i64 a0_2) := (blk_cell BK231.out 2).trans rfl; have hcz9_3 : w8.cell? ⟨gb231, 3, none⟩ = some (.string a0_3) := (blk_cell BK231.out 3).trans rfl; have hfz9_0 := blk_frozen BK231.out 0; have hfz9_1 := blk_frozen BK231.out 1; have hfz9_2 := blk_frozen BK231.out 2; have hfz9_3 := blk_frozen BK231.out 3) | ((with_reducible refine gate_callee (f := 18) rfl ?_); refine goesL_ (some 4) rfl rfl Try.func18 (by kernel_rfl) rfl #[.agg #[.int .i64 a0_0, .string a0_1, .int .i64 a0_2, .string a0_3]] rfl (by (try simp only [List.map_toArray, List.map_cons, List.map_nil]); first | done | rfl | (simp only [List.length_drop, List.length_take]; rfl)) ?_; (with_reducible refine (caulkerref07_Right.calls k a0_0 a0_1 a0_2 a0_3 false _ A2.out).mono ?_); rintro e w10 ⟨rfl, hb⟩; refine ⟨_, rfl, ?_⟩; have n0_ := pxk BK231 hb; have n1_ := pxs HB hb; clear BK231; clear HB; have BK231 := n0_; have HB := n1_; clear n0_ n1_; (try clear hb); (try clear hb2); (try clear hk); (try clear hi); have hcz11_0 : w10.cell? ⟨gb231, 0, none⟩ = some (.int .i64 a0_0) := (blk_cell BK231.out 0).trans rfl; have hcz11_1 : w10.cell? ⟨gb231, 1, none⟩ = some (.string a0_1) := (blk_cell BK231.out 1).trans rfl; have hcz11_2 : w10.cell? ⟨gb231, 2, none⟩ = some (.int .i64 a0_2) := (blk_cell BK231.out 2).trans rfl; have hcz11_3 : w10.cell? ⟨gb231, 3, none⟩ = some (.string a0_3) := (blk_cell BK231.out 3).trans rfl; have hfz11_0 := blk_frozen BK231.out 0; have hfz11_1 := blk_frozen BK231.out 1; have hfz11_2 := blk_frozen BK231.out 2; have hfz11_3 := blk_frozen BK231.out 3))
   go_ret
   exact ⟨by first | rfl | (simp [errW_none, errW_some] <;> rfl) | (simp [*, errW_none, errW_some] <;> rfl) | (simp [*, pxbeq, pxbne, errW_none, errW_some]; done), pxb HB⟩
  ·rw [if_neg c7] at H
   have c7b0 : (a0_0 == 7 && (a0_1.toList == ([] : List UInt8) && (a0_2 == 0 && (a0_3.toList == ([63] : List UInt8))))) = false := by simpa using c7
   (try (have c7b0e : (a0_0 == 7 && (a0_1.toList.isEmpty && (a0_2 == 0 && (a0_3.toList == ([63] : List UInt8))))) = false := by simpa only [pxbeq, pxbne] using c7b0))
   (try (have c7b1 : decide (a0_0 = 7 && (a0_1.toList == ([] : List UInt8) && (a0_2 == 0 && (a0_3.toList == ([63] : List UInt8))))) = false := by simpa using c7))
   (try (have c7b1e : decide (a0_0 = 7 && (a0_1.toList.isEmpty && (a0_2 == 0 && (a0_3.toList == ([63] : List UInt8))))) = false := by simpa only [pxbeq, pxbne] using c7b1))
   (try (have c7b2 : (a0_0 == 7 && (a0_1.toList == ([] : List UInt8) && (a0_2 == 0 && (a0_3.toList == ([63] : List UInt8))))) = false := by simpa using c7))
   (try (have c7b2e : (a0_0 == 7 && (a0_1.toList.isEmpty && (a0_2 == 0 && (a0_3.toList == ([63] : List UInt8))))) = false := by simpa only [pxbeq, pxbne] using c7b2))
   (try (have c7b3 : ¬ (a0_0 = 7 && (a0_1.toList == ([] : List UInt8) && (a0_2 == 0 && (a0_3.toList == ([63] : List UInt8))))) := by simpa using c7))
   clear c7
   obtain rfl := Option.some.inj H
   go_enter Try.func11, Try.ntmps11
   go_wp2_with (first | ((with_reducible refine gate_dst (N := 1) rfl ?_); refine box_event ?hg (N := 1) ?hd (cs := #[.int .i64 a0_0, .string a0_1, .int .i64 a0_2, .string a0_3]) (t := 23) ?hr ?_; (case hd => rfl); (case hg => rfl); (case hr => first | (go_simp; done) | (go_simp; rfl)); intro gb231 hg w12 hbox hb; have n0_ := pxs HB hb; have n1_ := Aside0.mk (hbox); have n2_ := Aside0.mk ((by rw [hg]; exact (below_size (pxb HB)) : w.heap.size ≤ gb231)); have n3_ := Aside0.mk ((by rw [hg]; exact (below_size (pxb HB)) : w.heap.size ≤ gb231)); clear HB; have HB := n0_; have BK231 := n1_; have GW231 := n2_; have GE231 := n3_; clear n0_ n1_ n2_ n3_; clear hb hbox hg; have hcz13_0 : w12.cell? ⟨gb231, 0, none⟩ = some (.int .i64 a0_0) := (blk_cell BK231.out 0).trans rfl; have hcz13_1 : w12.cell? ⟨gb231, 1, none⟩ = some (.string a0_1) := (blk_cell BK231.out 1).trans rfl; have hcz13_2 : w12.cell? ⟨gb231, 2, none⟩ = some (.int .i64 a0_2) := (blk_cell BK231.out 2).trans rfl; have hcz13_3 : w12.cell? ⟨gb231, 3, none⟩ = some (.string a0_3) := (blk_cell BK231.out 3).trans rfl; have hfz13_0 := blk_frozen BK231.out 0; have hfz13_1 := blk_frozen BK231.out 1; have hfz13_2 := blk_frozen BK231.out 2; have hfz13_3 := blk_frozen BK231.out 3) | ((with_reducible refine gate_callee (f := 18) rfl ?_); refine goesL_ (some 4) rfl rfl Try.func18 (by kernel_rfl) rfl #[.agg #[.int .i64 a0_0, .string a0_1, .int .i64 a0_2, .string a0_3]] rfl (by (try simp only [List.map_toArray, List.map_cons, List.map_nil]); first | done | rfl | (simp only [List.length_drop, List.length_take]; rfl)) ?_; (with_reducible refine (caulkerref07_Right.calls k a0_0 a0_1 a0_2 a0_3 false _ A2.out).mono ?_); rintro e w14 ⟨rfl, hb⟩; refine ⟨_, rfl, ?_⟩; have n0_ := pxk BK231 hb; have n1_ := pxs HB hb; clear BK231; clear HB; have BK231 := n0_; have HB := n1_; clear n0_ n1_; (try clear hb); (try clear hb2); (try clear hk); (try clear hi); have hcz15_0 : w14.cell? ⟨gb231, 0, none⟩ = some (.int .i64 a0_0) := (blk_cell BK231.out 0).trans rfl; have hcz15_1 : w14.cell? ⟨gb231, 1, none⟩ = some (.string a0_1) := (blk_cell BK231.out 1).trans rfl; have hcz15_2 : w14.cell? ⟨gb231, 2, none⟩ = some (.int .i64 a0_2) := (blk_cell BK231.out 2).trans rfl; have hcz15_3 : w14.cell? ⟨gb231, 3, none⟩ = some (.string a0_3) := (blk_cell BK231.out 3).trans rfl; have hfz15_0 := blk_frozen BK231.out 0; have hfz15_1 := blk_frozen BK231.out 1; have hfz15_2 := blk_frozen BK231.out 2; have hfz15_3 := blk_frozen BK231.out 3))
   go_ret
   exact ⟨by first | rfl | (simp [errW_none, errW_some] <;> rfl) | (simp [*, errW_none, errW_some] <;> rfl) | (simp [*, pxbeq, pxbne, errW_none, errW_some]; done), pxb HB⟩

end Go.Proofs.Ytljchkghnmnpgaa.X
