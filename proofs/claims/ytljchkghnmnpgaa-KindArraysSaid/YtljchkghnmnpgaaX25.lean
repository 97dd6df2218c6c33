/- What the program's functions answer, as Lean functions, and that each call does just that; no condition. Written by a program (px.py) out of the translation. -/
import Derived.Test.YtljchkghnmnpgaaX0
import Derived.Test.YtljchkghnmnpgaaX26
namespace Go.Proofs.Ytljchkghnmnpgaa.X
open Go.RowKit Go.Proofs.YtljchkghnmnpgaaW.PrintWords Go.Proofs.YtljchkghnmnpgaaW.PrintLast Go.Proofs.YtljchkghnmnpgaaW.PrintMore
attribute [local go_sem] max2_int min2_int max_two min_two max_three min_three max_four min_four   -- for this text's walks alone
set_option linter.unusedVariables false
set_option linter.unusedSimpArgs false

/-! ### kind_Number: function 25 -/
def kind_Number.f (k : Nat) (a0_0 : Int) (a0_1 : ByteArray) (a0_2 : Int) (a0_3 : ByteArray) : Option (Bool) := (kind_Right.f k a0_0 a0_1 a0_2 a0_3).bind fun t335 => (if t335 = true then (if a0_2 = 0 then (if a0_0 = 1 then (some true) else (some (a0_0 == 3))) else (some false)) else (some false))
theorem kind_Number.mono : ∀ a0 a1 a2 a3 k, LeO (kind_Number.f k a0 a1 a2 a3) (kind_Number.f (k + 1) a0 a1 a2 a3) := by
 intro a0 a1 a2 a3 k
 unfold kind_Number.f
 repeat' first
   | (with_reducible exact kind_Right.mono _ _ _ _ _)
   | (with_reducible exact LeO.refl _)
   | (with_reducible exact LeO.none _)
   | (with_reducible refine LeO.ite ?_ ?_)
   | (with_reducible refine LeO.bind ?_ (fun _ => ?_))
   | exact kind_Right.mono _ _ _ _ _
   | exact LeO.none _
   | refine LeO.ite ?_ ?_
   | refine LeO.bind ?_ (fun _ => ?_)
set_option maxHeartbeats 8000000 in
set_option maxRecDepth 100000 in
theorem kind_Number.calls (k : Nat) (a0_0 : Int) (a0_1 : ByteArray) (a0_2 : Int) (a0_3 : ByteArray) (r : Bool) (w : World) (h : kind_Number.f k a0_0 a0_1 a0_2 a0_3 = some r) :
  Calls Try.prog 25 #[.agg #[.int .i64 a0_0, .string a0_1, .int .i64 a0_2, .string a0_3]] w fun e w' => e = .returned (.bool r) ∧ Below w.heap.size w w' := by
 have hu23 := Try.underlying23
 have HB := Aside0.mk (Below.refl w.heap.size w)
 have H : ((kind_Right.f k a0_0 a0_1 a0_2 a0_3).bind fun t335 => (if t335 = true then (if a0_2 = 0 then (if a0_0 = 1 then (some true) else (some (a0_0 == 3))) else (some false)) else (some false))) = some r := h
 clear h
 replace H := Option.bind_eq_some_iff.mp H
 obtain ⟨t335, A20, H⟩ := H
 replace H : (if t335 = true then (if a0_2 = 0 then (if a0_0 = 1 then (some true) else (some (a0_0 == 3))) else (some false)) else (some false)) = some r := H
 have A2 := Aside0.mk A20
 clear A20
 by_cases c3 : t335 = true
 ·subst c3
  have H1 : (if a0_2 = 0 then (if a0_0 = 1 then (some true) else (some (a0_0 == 3))) else (some false)) = some r := by rw [if_pos rfl] at H; exact H
  clear H
  have H := H1
  clear H1
  by_cases c4 : a0_2 = 0
  ·rw [if_pos c4] at H
   have c4b0 : (a0_2 == 0) = true := beq_iff_eq.mpr c4
   have c4b1 : (a0_2 != 0) = false := bne_eq_false_iff_eq.mpr c4
   clear c4
   by_cases c5 : a0_0 = 1
   ·rw [if_pos c5] at H
    have c5b0 : (a0_0 == 1) = true := beq_iff_eq.mpr c5
    have c5b1 : (a0_0 != 1) = false := bne_eq_false_iff_eq.mpr c5
    clear c5
    obtain rfl := Option.some.inj H
    go_enter Try.func25, Try.ntmps25
    go_wp2_with (first | ((with_reducible refine gate_dst (N := 1) rfl ?_); refine box_event ?hg (N := 1) ?hd (cs := #[.int .i64 a0_0, .string a0_1, .int .i64 a0_2, .string a0_3]) (t := 23) ?hr ?_; (case hd => rfl); (case hg => rfl); (case hr => first | (go_simp; done) | (go_simp; rfl)); intro gb334 hg w6 hbox hb; have n0_ := pxs HB hb; have n1_ := Aside0.mk (hbox); have n2_ := Aside0.mk ((by rw [hg]; exact (below_size (pxb HB)) : w.heap.size ≤ gb334)); have n3_ := Aside0.mk ((by rw [hg]; exact (below_size (pxb HB)) : w.heap.size ≤ gb334)); clear HB; have HB := n0_; have BK334 := n1_; have GW334 := n2_; have GE334 := n3_; clear n0_ n1_ n2_ n3_; clear hb hbox hg; have hcz7_0 : w6.cell? ⟨gb334, 0, none⟩ = some (.int .i64 a0_0) := (blk_cell BK334.out 0).trans rfl; have hcz7_1 : w6.cell? ⟨gb334, 1, none⟩ = some (.string a0_1) := (blk_cell BK334.out 1).trans rfl; have hcz7_2 : w6.cell? ⟨gb334, 2, none⟩ = some (.int .i64 a0_2) := (blk_cell BK334.out 2).trans rfl; have hcz7_3 : w6.cell? ⟨gb334, 3, none⟩ = some (.string a0_3) := (blk_cell BK334.out 3).trans rfl; have hfz7_0 := blk_frozen BK334.out 0; have hfz7_1 := blk_frozen BK334.out 1; have hfz7_2 := blk_frozen BK334.out 2; have hfz7_3 := blk_frozen BK334.out 3) | ((with_reducible refine gate_callee (f := 26) rfl ?_); refine goesL_ (some 4) rfl rfl Try.func26 (by kernel_rfl) rfl #[.agg #[.int .i64 a0_0, .string a0_1, .int .i64 a0_2, .string a0_3]] rfl (by (try simp only [List.map_toArray, List.map_cons, List.map_nil]); first | done | rfl | (simp only [List.length_drop, List.length_take]; rfl)) ?_; (with_reducible refine (kind_Right.calls k a0_0 a0_1 a0_2 a0_3 true _ A2.out).mono ?_); rintro e w8 ⟨rfl, hb⟩; refine ⟨_, rfl, ?_⟩; have n0_ := pxk BK334 hb; have n1_ := pxs HB hb; clear BK334; clear HB; have BK334 := n0_; have HB := n1_; clear n0_ n1_; (try clear hb); (try clear hb2); (try clear hk); (try clear hi); have hcz9_0 : w8.cell? ⟨gb334, 0, none⟩ = some (.int .i64 a0_0) := (blk_cell BK334.out 0).trans rfl; have hcz9_1 : w8.cell? ⟨gb334, 1, none⟩ = some (.string a0_1) := (blk_cell BK334.out 1).trans rfl; have hcz9_2 : w8.cell? ⟨gb334, 2, none⟩ = some (.int .i64 a0_2) := (blk_cell BK334.out 2).trans rfl; have hcz9_3 : w8.cell? ⟨gb334, 3, none⟩ = some (.string a0_3) := (blk_cell BK334.out 3).trans rfl; have hfz9_0 := blk_frozen BK334.out 0; have hfz9_1 := blk_frozen BK334.out 1; have hfz9_2 := blk_frozen BK334.out 2; have hfz9_3 := blk_frozen BK334.out 3))
    go_ret
    exact ⟨by first | rfl | (simp [errW_none, errW_some] <;> rfl) | (simp [*, errW_none, errW_some] <;> rfl), pxb HB⟩
   ·rw [if_neg c5] at H
    have c5b0 : (a0_0 == 1) = false := beq_eq_false_iff_ne.mpr c5
    have c5b1 : (a0_0 != 1) = true := bne_iff_ne.mpr c5
    obtain rfl := Option.some.inj H
    go_enter Try.func25, Try.ntmps25
    go_wp2_with (first | ((with_reducible refine gate_dst (N := 1) rfl ?_); refine box_event ?hg (N := 1) ?hd (cs := #[.int .i64 a0_0, .string a0_1, .int .i64 a0_2, .string a0_3]) (t := 23) ?hr ?_; (case hd => rfl); (case hg => rfl); (case hr => first | (go_simp; done) | (go_simp; rfl)); intro gb334 hg w10 hbox hb; have n0_ := pxs HB hb; have n1_ := Aside0.mk (hbox); have n2_ := Aside0.mk ((by rw [hg]; exact (below_size (pxb HB)) : w.heap.size ≤ gb334)); have n3_ := Aside0.mk ((by rw [hg]; exact (below_size (pxb HB)) : w.heap.size ≤ gb334)); clear HB; have HB := n0_; have BK334 := n1_; have GW334 := n2_; have GE334 := n3_; clear n0_ n1_ n2_ n3_; clear hb hbox hg; have hcz11_0 : w10.cell? ⟨gb334, 0, none⟩ = some (.int .i64 a0_0) := (blk_cell BK334.out 0).trans rfl; have hcz11_1 : w10.cell? ⟨gb334, 1, none⟩ = some (.string a0_1) := (blk_cell BK334.out 1).trans rfl; have hcz11_2 : w10.cell? ⟨gb334, 2, none⟩ = some (.int .i64 a0_2) := (blk_cell BK334.out 2).trans rfl; have hcz11_3 : w10.cell? ⟨gb334, 3, none⟩ = some (.string a0_3) := (blk_cell BK334.out 3).trans rfl; have hfz11_0 := blk_frozen BK334.out 0; have hfz11_1 := blk_frozen BK334.out 1; have hfz11_2 := blk_frozen BK334.out 2; have hfz11_3 := blk_frozen BK334.out 3) | ((with_reducible refine gate_callee (f := 26) rfl ?_); refine goesL_ (some 4) rfl rfl Try.func26 (by kernel_rfl) rfl #[.agg #[.int .i64 a0_0, .string a0_1, .int .i64 a0_2, .string a0_3]] rfl (by (try simp only [List.map_toArray, List.map_cons, List.map_nil]); first | done | rfl | (simp only [List.length_drop, List.length_take]; rfl)) ?_; (with_reducible refine (kind_Right.calls k a0_0 a0_1 a0_2 a0_3 true _ A2.out).mono ?_); rintro e w12 ⟨rfl, hb⟩; refine ⟨_, rfl, ?_⟩; have n0_ := pxk BK334 hb; have n1_ := pxs HB hb; clear BK334; clear HB; have BK334 := n0_; have HB := n1_; clear n0_ n1_; (try clear hb); (try clear hb2); (try clear hk); (try clear hi); have hcz13_0 : w12.cell? ⟨gb334, 0, none⟩ = some (.int .i64 a0_0) := (blk_cell BK334.out 0).trans rfl; have hcz13_1 : w12.cell? ⟨gb334, 1, none⟩ = some (.string a0_1) := (blk_cell BK334.out 1).trans rfl; have hcz13_2 : w12.cell? ⟨gb334, 2, none⟩ = some (.int .i64 a0_2) := (blk_cell BK334.out 2).trans rfl; have hcz13_3 : w12.cell? ⟨gb334, 3, none⟩ = some (.string a0_3) := (blk_cell BK334.out 3).trans rfl; have hfz13_0 := blk_frozen BK334.out 0; have hfz13_1 := blk_frozen BK334.out 1; have hfz13_2 := blk_frozen BK334.out 2; have hfz13_3 := blk_frozen BK334.out 3))
    go_ret
    exact ⟨by first | rfl | (simp [errW_none, errW_some] <;> rfl) | (simp [*, errW_none, errW_some] <;> rfl), pxb HB⟩
  ·rw [if_neg c4] at H
   have c4b0 : (a0_2 == 0) = false := beq_eq_false_iff_ne.mpr c4
   have c4b1 : (a0_2 != 0) = true := bne_iff_ne.mpr c4
   obtain rfl := Option.some.inj H
   go_enter Try.func25, Try.ntmps25
   go_wp2_with (first | ((with_reducible refine gate_dst (N := 1) rfl ?_); refine box_event ?hg (N := 1) ?hd (cs := #[.int .i64 a0_0, .string a0_1, .int .i64 a0_2, .string a0_3]) (t := 23) ?hr ?_; (case hd => rfl); (case hg => rfl); (case hr => first | (go_simp; done) | (go_simp; rfl)); intro gb334 hg w14 hbox hb; have n0_ := pxs HB hb; have n1_ := Aside0.mk (hbox); have n2_ := Aside0.mk ((by rw [hg]; exact (below_size (pxb HB)) : w.heap.size ≤ gb334)); have n3_ := Aside0.mk ((by rw [hg]; exact (below_size (pxb HB)) : w.heap.size ≤ gb334)); clear HB; have HB := n0_; have BK334 := n1_; have GW334 := n2_; have GE334 := n3_; clear n0_ n1_ n2_ n3_; clear hb hbox hg; have hcz15_0 : w14.cell? ⟨gb334, 0, none⟩ = some (.int .i64 a0_0) := (blk_cell BK334.out 0).trans rfl; have hcz15_1 : w14.cell? ⟨gb334, 1, none⟩ = some (.string a0_1) := (blk_cell BK334.out 1).trans rfl; have hcz15_2 : w14.cell? ⟨gb334, 2, none⟩ = some (.int .i64 a0_2) := (blk_cell BK334.out 2).trans rfl; have hcz15_3 : w14.cell? ⟨gb334, 3, none⟩ = some (.string a0_3) := (blk_cell BK334.out 3).trans rfl; have hfz15_0 := blk_frozen BK334.out 0; have hfz15_1 := blk_frozen BK334.out 1; have hfz15_2 := blk_frozen BK334.out 2; have hfz15_3 := blk_frozen BK334.out 3) | ((with_reducible refine gate_callee (f := 26) rfl ?_); refine goesL_ (some 4) rfl rfl Try.func26 (by kernel_rfl) rfl #[.agg #[.int .i64 a0_0, .string a0_1, .int .i64 a0_2, .string a0_3]] rfl (by (try simp only [List.map_toArray, List.map_cons, List.map_nil]); first | done | rfl | (simp only [List.length_drop, List.length_take]; rfl)) ?_; (with_reducible refine (kind_Right.calls k a0_0 a0_1 a0_2 a0_3 true _ A2.out).mono ?_); rintro e w16 ⟨rfl, hb⟩; refine ⟨_, rfl, ?_⟩; have n0_ := pxk BK334 hb; have n1_ := pxs HB hb; clear BK334; clear HB; have BK334 := n0_; have HB := n1_; clear n0_ n1_; (try clear hb); (try clear hb2); (try clear hk); (try clear hi); have hcz17_0 : w16.cell? ⟨gb334, 0, none⟩ = some (.int .i64 a0_0) := (blk_cell BK334.out 0).trans rfl; have hcz17_1 : w16.cell? ⟨gb334, 1, none⟩ = some (.string a0_1) := (blk_cell BK334.out 1).trans rfl; have hcz17_2 : w16.cell? ⟨gb334, 2, none⟩ = some (.int .i64 a0_2) := (blk_cell BK334.out 2).trans rfl; have hcz17_3 : w16.cell? ⟨gb334, 3, none⟩ = some (.string a0_3) := (blk_cell BK334.out 3).trans rfl; have hfz17_0 := blk_frozen BK334.out 0; have hfz17_1 := blk_frozen BK334.out 1; have hfz17_2 := blk_frozen BK334.out 2; have hfz17_3 := blk_frozen BK334.out 3))
   go_ret
   exact ⟨by first | rfl | (simp [errW_none, errW_some] <;> rfl) | (simp [*, errW_none, errW_some] <;> rfl), pxb HB⟩
 ·replace c3 := Bool.eq_false_iff.mpr c3
  subst c3
  have H1 : (some false) = some r := by rw [if_neg (show ¬ (false = true) by decide)] at H; exact H
  clear H
  have H := H1
  clear H1
  obtain rfl := Option.some.inj H
  go_enter Try.func25, Try.ntmps25
  go_wp2_with (first | ((with_reducible refine gate_dst (N := 1) rfl ?_); refine box_event ?hg (N := 1) ?hd (cs := #[.int .i64 a0_0, .string a0_1, .int .i64 a0_2, .string a0_3]) (t := 23) ?hr ?_; (case hd => rfl); (case hg => rfl); (case hr => first | (go_simp; done) | (go_simp; rfl)); intro gb334 hg w18 hbox hb; have n0_ := pxs HB hb; have n1_ := Aside0.mk (hbox); have n2_ := Aside0.mk ((by rw [hg]; exact (below_size (pxb HB)) : w.heap.size ≤ gb334)); have n3_ := Aside0.mk ((by rw [hg]; exact (below_size (pxb HB)) : w.heap.size ≤ gb334)); clear HB; have HB := n0_; have BK334 := n1_; have GW334 := n2_; have GE334 := n3_; clear n0_ n1_ n2_ n3_; clear hb hbox hg; have hcz19_0 : w18.cell? ⟨gb334, 0, none⟩ = some (.int .i64 a0_0) := (blk_cell BK334.out 0).trans rfl; have hcz19_1 : w18.cell? ⟨gb334, 1, none⟩ = some (.string a0_1) := (blk_cell BK334.out 1).trans rfl; have hcz19_2 : w18.cell? ⟨gb334, 2, none⟩ = some (.int .i64 a0_2) := (blk_cell BK334.out 2).trans rfl; have hcz19_3 : w18.cell? ⟨gb334, 3, none⟩ = some (.string a0_3) := (blk_cell BK334.out 3).trans rfl; have hfz19_0 := blk_frozen BK334.out 0; have hfz19_1 := blk_frozen BK334.out 1; have hfz19_2 := blk_frozen BK334.out 2; have hfz19_3 := blk_frozen BK334.out 3) | ((with_reducible refine gate_callee (f := 26) rfl ?_); refine goesL_ (some 4) rfl rfl Try.func26 (by kernel_rfl) rfl #[.agg #[.int .i64 a0_0, .string a0_1, .int .i64 a0_2, .string a0_3]] rfl (by (try simp only [List.map_toArray, List.map_cons, List.map_nil]); first | done | rfl | (simp only [List.length_drop, List.length_take]; rfl)) ?_; (with_reducible refine (kind_Right.calls k a0_0 a0_1 a0_2 a0_3 false _ A2.out).mono ?_); rintro e w20 ⟨rfl, hb⟩; refine ⟨_, rfl, ?_⟩; have n0_ := pxk BK334 hb; have n1_ := pxs HB hb; clear BK334; clear HB; have BK334 := n0_; have HB := n1_; clear n0_ n1_; (try clear hb); (try clear hb2); (try clear hk); (try clear hi)))
  go_ret
  exact ⟨by first | rfl | (simp [errW_none, errW_some] <;> rfl) | (simp [*, errW_none, errW_some] <;> rfl), pxb HB⟩

end Go.Proofs.Ytljchkghnmnpgaa.X
