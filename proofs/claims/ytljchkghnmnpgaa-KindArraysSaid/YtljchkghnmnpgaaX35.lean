/- What the program's functions answer, as Lean functions, and that each call does just that; no condition. Written by a program (px.py) out of the translation. -/
import Derived.Test.YtljchkghnmnpgaaX0
import Derived.Test.YtljchkghnmnpgaaX42
namespace Go.Proofs.Ytljchkghnmnpgaa.X
open Go.RowKit Go.Proofs.YtljchkghnmnpgaaW.PrintWords Go.Proofs.YtljchkghnmnpgaaW.PrintLast Go.Proofs.YtljchkghnmnpgaaW.PrintMore
attribute [local go_sem] max2_int min2_int max_two min_two max_three min_three max_four min_four   -- for this text's walks alone
set_option linter.unusedVariables false
set_option linter.unusedSimpArgs false

/-! ### tree_TypeText: function 35 -/
mutual
def tree_TypeText.j0 : Nat → ByteArray → Int → ByteArray → Int → ByteArray → Option (ByteArray)
 | 0, _, _, _, _, _ => none
 | k + 1, x3, x105000, x105001, x105002, x105003 => tree_TypeText.l0 k x3 (x105003.size : Int) 0 x105000 x105001 x105002 x105003
def tree_TypeText.l0 : Nat → ByteArray → Int → Int → Int → ByteArray → Int → ByteArray → Option (ByteArray)
 | 0, _, _, _, _, _, _, _ => none
 | k + 1, x3, x24, x25, x105000, x105001, x105002, x105003 => if x25 < x24 then (if x25 > 0 then (if x3.size + 2 ≤ 9223372036854775807 then (tree_TypeText.j2 k (x3 ++ (⟨#[91, 93]⟩ : ByteArray)) x25 x24 x25 x105000 x105001 x105002 x105003) else (none)) else (tree_TypeText.j2 k x3 x25 x24 x25 x105000 x105001 x105002 x105003)) else (some x3)
def tree_TypeText.j2 : Nat → ByteArray → Int → Int → Int → Int → ByteArray → Int → ByteArray → Option (ByteArray)
 | 0, _, _, _, _, _, _, _, _ => none
 | k + 1, x3, x4, x24, x25, x105000, x105001, x105002, x105003 => if 0 ≤ x4 then (if x4 < (x105003.size : Int) then (if (bt x105003 x4) = 63 then (if x3.size + 1 ≤ 9223372036854775807 then (tree_TypeText.l0 k (x3 ++ (⟨#[63]⟩ : ByteArray)) x24 (wrap64 (x25 + 1)) x105000 x105001 x105002 x105003) else (none)) else (if (bt x105003 x4) = 111 then (if 7 + x3.size ≤ 9223372036854775807 then (if ((⟨#[79, 112, 116, 105, 111, 110, 60]⟩ : ByteArray) ++ x3).size + 1 ≤ 9223372036854775807 then (tree_TypeText.l0 k (((⟨#[79, 112, 116, 105, 111, 110, 60]⟩ : ByteArray) ++ x3) ++ (⟨#[62]⟩ : ByteArray)) x24 (wrap64 (x25 + 1)) x105000 x105001 x105002 x105003) else (none)) else (none)) else (tree_TypeText.l0 k x3 x24 (wrap64 (x25 + 1)) x105000 x105001 x105002 x105003))) else (none)) else (none)
end
def tree_TypeText.f (k : Nat) (a0_0 : Int) (a0_1 : ByteArray) (a0_2 : Int) (a0_3 : ByteArray) : Option (ByteArray) := (tree_typed.f k a0_0 a0_1 a0_2 a0_3).bind fun t105 => (if t105 = true then (if a0_0 = 1 then (tree_TypeText.j0 k (⟨#[105, 110, 116]⟩ : ByteArray) a0_0 a0_1 a0_2 a0_3) else (if a0_0 = 2 then (tree_TypeText.j0 k (⟨#[98, 111, 111, 108]⟩ : ByteArray) a0_0 a0_1 a0_2 a0_3) else (if a0_0 = 3 then (tree_TypeText.j0 k (⟨#[100, 111, 117, 98, 108, 101]⟩ : ByteArray) a0_0 a0_1 a0_2 a0_3) else (if a0_0 = 4 then (tree_TypeText.j0 k (⟨#[115, 116, 114]⟩ : ByteArray) a0_0 a0_1 a0_2 a0_3) else (if a0_0 = 6 then (tree_TypeText.j0 k (⟨#[118, 111, 105, 100]⟩ : ByteArray) a0_0 a0_1 a0_2 a0_3) else (tree_TypeText.j0 k a0_1 a0_0 a0_1 a0_2 a0_3)))))) else (some (⟨#[]⟩ : ByteArray)))
theorem tree_TypeText.mono_l : ∀ k, (∀ y0 y1 y2 y3 y4, LeO (tree_TypeText.j0 k y0 y1 y2 y3 y4) (tree_TypeText.j0 (k + 1) y0 y1 y2 y3 y4)) ∧ (∀ y0 y1 y2 y3 y4 y5 y6, LeO (tree_TypeText.l0 k y0 y1 y2 y3 y4 y5 y6) (tree_TypeText.l0 (k + 1) y0 y1 y2 y3 y4 y5 y6)) ∧ (∀ y0 y1 y2 y3 y4 y5 y6 y7, LeO (tree_TypeText.j2 k y0 y1 y2 y3 y4 y5 y6 y7) (tree_TypeText.j2 (k + 1) y0 y1 y2 y3 y4 y5 y6 y7))
 | 0 => ⟨fun _ _ _ _ _ r h => by simp [tree_TypeText.j0] at h, fun _ _ _ _ _ _ _ r h => by simp [tree_TypeText.l0] at h, fun _ _ _ _ _ _ _ _ r h => by simp [tree_TypeText.j2] at h⟩
 | k + 1 => by
  obtain ⟨ih0, ih1, ih2⟩ := tree_TypeText.mono_l k
  refine ⟨?_, ?_, ?_⟩
  ·intro y0 y1 y2 y3 y4
   unfold tree_TypeText.j0
   repeat' first
   | (with_reducible exact ih0 _ _ _ _ _)
   | (with_reducible exact ih1 _ _ _ _ _ _ _)
   | (with_reducible exact ih2 _ _ _ _ _ _ _ _)
   | (with_reducible exact tree_typed.mono _ _ _ _ _)
   | (with_reducible exact LeO.refl _)
   | (with_reducible exact LeO.none _)
   | (with_reducible refine LeO.ite ?_ ?_)
   | (with_reducible refine LeO.bind ?_ (fun _ => ?_))
   | exact ih0 _ _ _ _ _
   | exact ih1 _ _ _ _ _ _ _
   | exact ih2 _ _ _ _ _ _ _ _
   | exact tree_typed.mono _ _ _ _ _
   | exact LeO.none _
   | refine LeO.ite ?_ ?_
   | refine LeO.bind ?_ (fun _ => ?_)
  ·intro y0 y1 y2 y3 y4 y5 y6
   unfold tree_TypeText.l0
   repeat' first
   | (with_reducible exact ih0 _ _ _ _ _)
   | (with_reducible exact ih1 _ _ _ _ _ _ _)
   | (with_reducible exact ih2 _ _ _ _ _ _ _ _)
   | (with_reducible exact tree_typed.mono _ _ _ _ _)
   | (with_reducible exact LeO.refl _)
   | (with_reducible exact LeO.none _)
   | (with_reducible refine LeO.ite ?_ ?_)
   | (with_reducible refine LeO.bind ?_ (fun _ => ?_))
   | exact ih0 _ _ _ _ _
   | exact ih1 _ _ _ _ _ _ _
   | exact ih2 _ _ _ _ _ _ _ _
   | exact tree_typed.mono _ _ _ _ _
   | exact LeO.none _
   | refine LeO.ite ?_ ?_
   | refine LeO.bind ?_ (fun _ => ?_)
  ·intro y0 y1 y2 y3 y4 y5 y6 y7
   unfold tree_TypeText.j2
   repeat' first
   | (with_reducible exact ih0 _ _ _ _ _)
   | (with_reducible exact ih1 _ _ _ _ _ _ _)
   | (with_reducible exact ih2 _ _ _ _ _ _ _ _)
   | (with_reducible exact tree_typed.mono _ _ _ _ _)
   | (with_reducible exact LeO.refl _)
   | (with_reducible exact LeO.none _)
   | (with_reducible refine LeO.ite ?_ ?_)
   | (with_reducible refine LeO.bind ?_ (fun _ => ?_))
   | exact ih0 _ _ _ _ _
   | exact ih1 _ _ _ _ _ _ _
   | exact ih2 _ _ _ _ _ _ _ _
   | exact tree_typed.mono _ _ _ _ _
   | exact LeO.none _
   | refine LeO.ite ?_ ?_
   | refine LeO.bind ?_ (fun _ => ?_)
theorem tree_TypeText.mono : ∀ a0 a1 a2 a3 k, LeO (tree_TypeText.f k a0 a1 a2 a3) (tree_TypeText.f (k + 1) a0 a1 a2 a3) := by
 intro a0 a1 a2 a3 k
 obtain ⟨ih0, ih1, ih2⟩ := tree_TypeText.mono_l k
 unfold tree_TypeText.f
 repeat' first
   | (with_reducible exact ih0 _ _ _ _ _)
   | (with_reducible exact ih1 _ _ _ _ _ _ _)
   | (with_reducible exact ih2 _ _ _ _ _ _ _ _)
   | (with_reducible exact tree_typed.mono _ _ _ _ _)
   | (with_reducible exact LeO.refl _)
   | (with_reducible exact LeO.none _)
   | (with_reducible refine LeO.ite ?_ ?_)
   | (with_reducible refine LeO.bind ?_ (fun _ => ?_))
   | exact ih0 _ _ _ _ _
   | exact ih1 _ _ _ _ _ _ _
   | exact ih2 _ _ _ _ _ _ _ _
   | exact tree_typed.mono _ _ _ _ _
   | exact LeO.none _
   | refine LeO.ite ?_ ?_
   | refine LeO.bind ?_ (fun _ => ?_)
set_option maxHeartbeats 8000000 in
set_option maxRecDepth 100000 in
theorem tree_TypeText.calls (k : Nat) (a0_0 : Int) (a0_1 : ByteArray) (a0_2 : Int) (a0_3 : ByteArray) (r : ByteArray) (w : World) (h : tree_TypeText.f k a0_0 a0_1 a0_2 a0_3 = some r) :
  Calls Try.prog 35 #[.agg #[.int .i64 a0_0, .string a0_1, .int .i64 a0_2, .string a0_3]] w fun e w' => e = .returned (.string r) ∧ Below w.heap.size w w' := by
 have hu23 := Try.underlying23
 have HB := Aside0.mk (Below.refl w.heap.size w)
 have H : ((tree_typed.f k a0_0 a0_1 a0_2 a0_3).bind fun t105 => (if t105 = true then (if a0_0 = 1 then (tree_TypeText.j0 k (⟨#[105, 110, 116]⟩ : ByteArray) a0_0 a0_1 a0_2 a0_3) else (if a0_0 = 2 then (tree_TypeText.j0 k (⟨#[98, 111, 111, 108]⟩ : ByteArray) a0_0 a0_1 a0_2 a0_3) else (if a0_0 = 3 then (tree_TypeText.j0 k (⟨#[100, 111, 117, 98, 108, 101]⟩ : ByteArray) a0_0 a0_1 a0_2 a0_3) else (if a0_0 = 4 then (tree_TypeText.j0 k (⟨#[115, 116, 114]⟩ : ByteArray) a0_0 a0_1 a0_2 a0_3) else (if a0_0 = 6 then (tree_TypeText.j0 k (⟨#[118, 111, 105, 100]⟩ : ByteArray) a0_0 a0_1 a0_2 a0_3) else (tree_TypeText.j0 k a0_1 a0_0 a0_1 a0_2 a0_3)))))) else (some (⟨#[]⟩ : ByteArray)))) = some r := h
 clear h
 replace H := Option.bind_eq_some_iff.mp H
 obtain ⟨t105, A20, H⟩ := H
 replace H : (if t105 = true then (if a0_0 = 1 then (tree_TypeText.j0 k (⟨#[105, 110, 116]⟩ : ByteArray) a0_0 a0_1 a0_2 a0_3) else (if a0_0 = 2 then (tree_TypeText.j0 k (⟨#[98, 111, 111, 108]⟩ : ByteArray) a0_0 a0_1 a0_2 a0_3) else (if a0_0 = 3 then (tree_TypeText.j0 k (⟨#[100, 111, 117, 98, 108, 101]⟩ : ByteArray) a0_0 a0_1 a0_2 a0_3) else (if a0_0 = 4 then (tree_TypeText.j0 k (⟨#[115, 116, 114]⟩ : ByteArray) a0_0 a0_1 a0_2 a0_3) else (if a0_0 = 6 then (tree_TypeText.j0 k (⟨#[118, 111, 105, 100]⟩ : ByteArray) a0_0 a0_1 a0_2 a0_3) else (tree_TypeText.j0 k a0_1 a0_0 a0_1 a0_2 a0_3)))))) else (some (⟨#[]⟩ : ByteArray))) = some r := H
 have A2 := Aside0.mk A20
 clear A20
 by_cases c3 : t105 = true
 ·subst c3
  have H1 : (if a0_0 = 1 then (tree_TypeText.j0 k (⟨#[105, 110, 116]⟩ : ByteArray) a0_0 a0_1 a0_2 a0_3) else (if a0_0 = 2 then (tree_TypeText.j0 k (⟨#[98, 111, 111, 108]⟩ : ByteArray) a0_0 a0_1 a0_2 a0_3) else (if a0_0 = 3 then (tree_TypeText.j0 k (⟨#[100, 111, 117, 98, 108, 101]⟩ : ByteArray) a0_0 a0_1 a0_2 a0_3) else (if a0_0 = 4 then (tree_TypeText.j0 k (⟨#[115, 116, 114]⟩ : ByteArray) a0_0 a0_1 a0_2 a0_3) else (if a0_0 = 6 then (tree_TypeText.j0 k (⟨#[118, 111, 105, 100]⟩ : ByteArray) a0_0 a0_1 a0_2 a0_3) else (tree_TypeText.j0 k a0_1 a0_0 a0_1 a0_2 a0_3)))))) = some r := by rw [if_pos rfl] at H; exact H
  clear H
  have H := H1
  clear H1
  have HC4 := Aside0.mk H
  clear H
  go_enter Try.func35, Try.ntmps35
  go_upto_block 0 with (first | ((with_reducible refine gate_dst (N := 1) rfl ?_); refine box_event ?hg (N := 1) ?hd (cs := #[.int .i64 a0_0, .string a0_1, .int .i64 a0_2, .string a0_3]) (t := 23) ?hr ?_; (case hd => rfl); (case hg => rfl); (case hr => first | (go_simp; done) | (go_simp; rfl)); intro gb104 hg w5 hbox hb; have n0_ := pxs HB hb; have n1_ := Aside0.mk (hbox); have n2_ := Aside0.mk ((by rw [hg]; exact (below_size (pxb HB)) : w.heap.size ≤ gb104)); have n3_ := Aside0.mk ((by rw [hg]; exact (below_size (pxb HB)) : w.heap.size ≤ gb104)); clear HB; have HB := n0_; have BK104 := n1_; have GW104 := n2_; have GE104 := n3_; clear n0_ n1_ n2_ n3_; clear hb hbox hg; have hcz6_0 : w5.cell? ⟨gb104, 0, none⟩ = some (.int .i64 a0_0) := (blk_cell BK104.out 0).trans rfl; have hcz6_1 : w5.cell? ⟨gb104, 1, none⟩ = some (.string a0_1) := (blk_cell BK104.out 1).trans rfl; have hcz6_2 : w5.cell? ⟨gb104, 2, none⟩ = some (.int .i64 a0_2) := (blk_cell BK104.out 2).trans rfl; have hcz6_3 : w5.cell? ⟨gb104, 3, none⟩ = some (.string a0_3) := (blk_cell BK104.out 3).trans rfl; have hfz6_0 := blk_frozen BK104.out 0; have hfz6_1 := blk_frozen BK104.out 1; have hfz6_2 := blk_frozen BK104.out 2; have hfz6_3 := blk_frozen BK104.out 3) | ((with_reducible refine gate_callee (f := 42) rfl ?_); refine goesL_ (some 6) rfl rfl Try.func42 (by kernel_rfl) rfl #[.agg #[.int .i64 a0_0, .string a0_1, .int .i64 a0_2, .string a0_3]] rfl (by (try simp only [List.map_toArray, List.map_cons, List.map_nil]); first | done | rfl | (simp only [List.length_drop, List.length_take]; rfl)) ?_; (with_reducible refine (tree_typed.calls k a0_0 a0_1 a0_2 a0_3 true _ A2.out).mono ?_); rintro e w7 ⟨rfl, hb⟩; refine ⟨_, rfl, ?_⟩; have n0_ := pxk BK104 hb; have n1_ := pxs HB hb; clear BK104; clear HB; have BK104 := n0_; have HB := n1_; clear n0_ n1_; (try clear hb); (try clear hb2); (try clear hk); (try clear hi); have hcz8_0 : w7.cell? ⟨gb104, 0, none⟩ = some (.int .i64 a0_0) := (blk_cell BK104.out 0).trans rfl; have hcz8_1 : w7.cell? ⟨gb104, 1, none⟩ = some (.string a0_1) := (blk_cell BK104.out 1).trans rfl; have hcz8_2 : w7.cell? ⟨gb104, 2, none⟩ = some (.int .i64 a0_2) := (blk_cell BK104.out 2).trans rfl; have hcz8_3 : w7.cell? ⟨gb104, 3, none⟩ = some (.string a0_3) := (blk_cell BK104.out 3).trans rfl; have hfz8_0 := blk_frozen BK104.out 0; have hfz8_1 := blk_frozen BK104.out 1; have hfz8_2 := blk_frozen BK104.out 2; have hfz8_3 := blk_frozen BK104.out 3))
  (try simp only [Act.put, List.setIfInBounds_toArray, List.set_cons_zero, List.set_cons_succ])
  go_cut [3] (fun v3 wc => ∃ (kq : Nat) (x3_3 : ByteArray), v3 = .string x3_3 ∧ Aside0 (tree_TypeText.j0 kq x3_3 a0_0 a0_1 a0_2 a0_3 = some r) ∧ Aside0 (kq ≤ k) ∧ Aside0 (wc.heap[gb104]? = some (.cells #[.int .i64 a0_0, .string a0_1, .int .i64 a0_2, .string a0_3] 23 (0, 0))) ∧ Aside0 (Below w.heap.size w wc))
  case first =>
   have H := HC4.out
   clear HC4
   by_cases c9 : a0_0 = 1
   ·rw [if_pos c9] at H
    have c9b0 : (a0_0 == 1) = true := beq_iff_eq.mpr c9
    have c9b1 : (a0_0 != 1) = false := bne_eq_false_iff_eq.mpr c9
    clear c9
    (first | rw [c9b0] | (simp only [i64_w, i32_w]; rw [c9b0]) | skip)
    have H' := Aside0.mk H
    clear H
    go_wp2
    go_meet
    case rel => exact ⟨_, ((⟨#[105, 110, 116]⟩ : ByteArray)), (by first | rfl | (simp; done) | (simp [*]; done)), H', ⟨by first | omega | exact Nat.le_refl _⟩, ⟨pxq BK104⟩, ⟨pxb HB⟩⟩
   ·rw [if_neg c9] at H
    have c9b0 : (a0_0 == 1) = false := beq_eq_false_iff_ne.mpr c9
    have c9b1 : (a0_0 != 1) = true := bne_iff_ne.mpr c9
    (first | rw [c9b0] | (simp only [i64_w, i32_w]; rw [c9b0]) | skip)
    by_cases c10 : a0_0 = 2
    ·rw [if_pos c10] at H
     have c10b0 : (a0_0 == 2) = true := beq_iff_eq.mpr c10
     have c10b1 : (a0_0 != 2) = false := bne_eq_false_iff_eq.mpr c10
     clear c10
     have H' := Aside0.mk H
     clear H
     go_wp2
     go_meet
     case rel => exact ⟨_, ((⟨#[98, 111, 111, 108]⟩ : ByteArray)), (by first | rfl | (simp; done) | (simp [*]; done)), H', ⟨by first | omega | exact Nat.le_refl _⟩, ⟨pxq BK104⟩, ⟨pxb HB⟩⟩
    ·rw [if_neg c10] at H
     have c10b0 : (a0_0 == 2) = false := beq_eq_false_iff_ne.mpr c10
     have c10b1 : (a0_0 != 2) = true := bne_iff_ne.mpr c10
     by_cases c11 : a0_0 = 3
     ·rw [if_pos c11] at H
      have c11b0 : (a0_0 == 3) = true := beq_iff_eq.mpr c11
      have c11b1 : (a0_0 != 3) = false := bne_eq_false_iff_eq.mpr c11
      clear c11
      have H' := Aside0.mk H
      clear H
      go_wp2
      go_meet
      case rel => exact ⟨_, ((⟨#[100, 111, 117, 98, 108, 101]⟩ : ByteArray)), (by first | rfl | (simp; done) | (simp [*]; done)), H', ⟨by first | omega | exact Nat.le_refl _⟩, ⟨pxq BK104⟩, ⟨pxb HB⟩⟩
     ·rw [if_neg c11] at H
      have c11b0 : (a0_0 == 3) = false := beq_eq_false_iff_ne.mpr c11
      have c11b1 : (a0_0 != 3) = true := bne_iff_ne.mpr c11
      by_cases c12 : a0_0 = 4
      ·rw [if_pos c12] at H
       have c12b0 : (a0_0 == 4) = true := beq_iff_eq.mpr c12
       have c12b1 : (a0_0 != 4) = false := bne_eq_false_iff_eq.mpr c12
       clear c12
       have H' := Aside0.mk H
       clear H
       go_wp2
       go_meet
       case rel => exact ⟨_, ((⟨#[115, 116, 114]⟩ : ByteArray)), (by first | rfl | (simp; done) | (simp [*]; done)), H', ⟨by first | omega | exact Nat.le_refl _⟩, ⟨pxq BK104⟩, ⟨pxb HB⟩⟩
      ·rw [if_neg c12] at H
       have c12b0 : (a0_0 == 4) = false := beq_eq_false_iff_ne.mpr c12
       have c12b1 : (a0_0 != 4) = true := bne_iff_ne.mpr c12
       by_cases c13 : a0_0 = 6
       ·rw [if_pos c13] at H
        have c13b0 : (a0_0 == 6) = true := beq_iff_eq.mpr c13
        have c13b1 : (a0_0 != 6) = false := bne_eq_false_iff_eq.mpr c13
        clear c13
        have H' := Aside0.mk H
        clear H
        go_wp2
        go_meet
        case rel => exact ⟨_, ((⟨#[118, 111, 105, 100]⟩ : ByteArray)), (by first | rfl | (simp; done) | (simp [*]; done)), H', ⟨by first | omega | exact Nat.le_refl _⟩, ⟨pxq BK104⟩, ⟨pxb HB⟩⟩
       ·rw [if_neg c13] at H
        have c13b0 : (a0_0 == 6) = false := beq_eq_false_iff_ne.mpr c13
        have c13b1 : (a0_0 != 6) = true := bne_iff_ne.mpr c13
        have H' := Aside0.mk H
        clear H
        go_wp2
        go_meet
        case rel => exact ⟨_, (a0_1), (by first | rfl | (simp; done) | (simp [*]; done)), H', ⟨by first | omega | exact Nat.le_refl _⟩, ⟨pxq BK104⟩, ⟨pxb HB⟩⟩
  case rest =>
   clear HC4
   try clear c1
   try clear p2
   try clear c3
   try clear c4
   try clear c9
   try clear c9b0
   try clear c9b1
   try clear c10
   try clear c10b0
   try clear c10b1
   try clear c11
   try clear c11b0
   try clear c11b1
   try clear c12
   try clear c12b0
   try clear c12b1
   try clear c13
   try clear c13b0
   try clear c13b1
   try clear hcz6_0
   try clear hcz6_1
   try clear hcz6_2
   try clear hcz6_3
   try clear hcz8_0
   try clear hcz8_1
   try clear hcz8_2
   try clear hcz8_3
   try clear hfz6_0
   try clear hfz6_1
   try clear hfz6_2
   try clear hfz6_3
   try clear hfz8_0
   try clear hfz8_1
   try clear hfz8_2
   try clear hfz8_3
   obtain ⟨kq, x3_3, rfl, HA, HJ3, BK104, HB⟩ := hcut
   cases kq with
   | zero => exact absurd HA.out (by simp [tree_TypeText.j0])
   | succ kj3 =>
    have H := HA.out
    clear HA
    simp only [tree_TypeText.j0] at H
    have H' := Aside0.mk H
    clear H
    have hcz14_0 : wc.cell? ⟨gb104, 0, none⟩ = some (.int .i64 a0_0) := (blk_cell BK104.out 0).trans rfl
    have hcz14_1 : wc.cell? ⟨gb104, 1, none⟩ = some (.string a0_1) := (blk_cell BK104.out 1).trans rfl
    have hcz14_2 : wc.cell? ⟨gb104, 2, none⟩ = some (.int .i64 a0_2) := (blk_cell BK104.out 2).trans rfl
    have hcz14_3 : wc.cell? ⟨gb104, 3, none⟩ = some (.string a0_3) := (blk_cell BK104.out 3).trans rfl
    have hfz14_0 := blk_frozen BK104.out 0
    have hfz14_1 := blk_frozen BK104.out 1
    have hfz14_2 := blk_frozen BK104.out 2
    have hfz14_3 := blk_frozen BK104.out 3
    go_wp2
    go_loopg [3, 25] kj3 (fun kq v3 v25 w' => ∃ (x3_2 : ByteArray) (x25_2 : Int), v3 = .string x3_2 ∧ v25 = .int .i64 x25_2 ∧ Aside0 (tree_TypeText.l0 kq x3_2 (a0_3.size : Int) x25_2 a0_0 a0_1 a0_2 a0_3 = some r) ∧ Aside0 (kq ≤ kj3) ∧ Aside0 (w'.heap[gb104]? = some (.cells #[.int .i64 a0_0, .string a0_1, .int .i64 a0_2, .string a0_3] 23 (0, 0))) ∧ Aside0 (Below w.heap.size w w'))
    case atStart => exact ⟨(x3_3), (0), (by first | rfl | (simp; done) | (simp [*]; done)), (by first | rfl | (simp; done) | (simp [*]; done)), H', ⟨Nat.le_refl _⟩, ⟨pxq BK104⟩, ⟨pxb HB⟩⟩
    case round =>
     clear H'
     try clear c1
     try clear p2
     try clear c3
     try clear c4
     try clear c9
     try clear c9b0
     try clear c9b1
     try clear c10
     try clear c10b0
     try clear c10b1
     try clear c11
     try clear c11b0
     try clear c11b1
     try clear c12
     try clear c12b0
     try clear c12b1
     try clear c13
     try clear c13b0
     try clear c13b1
     try clear hcz14_0
     try clear hcz14_1
     try clear hcz14_2
     try clear hcz14_3
     try clear hcz6_0
     try clear hcz6_1
     try clear hcz6_2
     try clear hcz6_3
     try clear hcz8_0
     try clear hcz8_1
     try clear hcz8_2
     try clear hcz8_3
     try clear hfz14_0
     try clear hfz14_1
     try clear hfz14_2
     try clear hfz14_3
     try clear hfz6_0
     try clear hfz6_1
     try clear hfz6_2
     try clear hfz6_3
     try clear hfz8_0
     try clear hfz8_1
     try clear hfz8_2
     try clear hfz8_3
     try clear p2
     obtain ⟨x3_2, x25_2, rfl, rfl, HA, HK2, BK104, HB⟩ := hrel
     cases gk with
     | zero => exact absurd HA.out (by simp [tree_TypeText.l0])
     | succ k2 =>
      have H := HA.out
      clear HA
      simp only [tree_TypeText.l0] at H
      by_cases c15 : x25_2 < (a0_3.size : Int)
      ·rw [if_pos c15] at H
       have c15b0 : decide (x25_2 < (a0_3.size : Int)) = true := decide_eq_true c15
       clear c15
       have HC16 := Aside0.mk H
       clear H
       go_upto_if 29 with (fail)
       go_cut [3] (fun v3 wc => ∃ (kq : Nat) (x3_15 : ByteArray), v3 = .string x3_15 ∧ Aside0 (tree_TypeText.j2 kq x3_15 x25_2 (a0_3.size : Int) x25_2 a0_0 a0_1 a0_2 a0_3 = some r) ∧ Aside0 (kq ≤ k2) ∧ Aside0 (wc.heap[gb104]? = some (.cells #[.int .i64 a0_0, .string a0_1, .int .i64 a0_2, .string a0_3] 23 (0, 0))) ∧ Aside0 (Below w.heap.size w wc))
       case first =>
        have H := HC16.out
        clear HC16
        by_cases c17 : x25_2 > 0
        ·rw [if_pos c17] at H
         have c17b0 : decide (0 < x25_2) = true := decide_eq_true c17
         clear c17
         (first | rw [c17b0] | (simp only [i64_w, i32_w]; rw [c17b0]) | skip)
         by_cases c18 : x3_2.size + 2 ≤ 9223372036854775807
         ·rw [if_pos c18] at H
          have c18b0 := eq_true c18
          have c18b1 : decide (x3_2.size + 2 ≤ 9223372036854775807) = true := decide_eq_true c18
          try have c18b2 : (9223372036854775807 < x3_2.size + 2) = False := eq_false (Nat.not_lt.2 c18)
          have H' := Aside0.mk H
          clear H
          go_wp2
          go_meet
          case rel => exact ⟨_, (x3_2 ++ (⟨#[91, 93]⟩ : ByteArray)), (by first | rfl | (simp; done) | (simp [*]; done)), H', ⟨by have := HJ3.out; have := HK2.out; first | omega | exact Nat.le_refl _⟩, ⟨pxq BK104⟩, ⟨pxb HB⟩⟩
         ·rw [if_neg c18] at H
          exact absurd H (by simp)
        ·rw [if_neg c17] at H
         have c17b0 : decide (0 < x25_2) = false := decide_eq_false c17
         clear c17
         (first | rw [c17b0] | (simp only [i64_w, i32_w]; rw [c17b0]) | skip)
         have H' := Aside0.mk H
         clear H
         go_wp2
         go_meet
         case rel => exact ⟨_, (x3_2), (by first | rfl | (simp; done) | (simp [*]; done)), H', ⟨by have := HJ3.out; have := HK2.out; first | omega | exact Nat.le_refl _⟩, ⟨pxq BK104⟩, ⟨pxb HB⟩⟩
       case rest =>
        clear HC16
        try clear c1
        try clear p2
        try clear c3
        try clear c4
        try clear c9
        try clear c9b0
        try clear c9b1
        try clear c10
        try clear c10b0
        try clear c10b1
        try clear c11
        try clear c11b0
        try clear c11b1
        try clear c12
        try clear c12b0
        try clear c12b1
        try clear c13
        try clear c13b0
        try clear c13b1
        try clear c15
        try clear c15b0
        try clear c17
        try clear c17b0
        try clear c18
        try clear c18b0
        try clear c18b1
        try clear c18b2
        try clear hcz14_0
        try clear hcz14_1
        try clear hcz14_2
        try clear hcz14_3
        try clear hcz6_0
        try clear hcz6_1
        try clear hcz6_2
        try clear hcz6_3
        try clear hcz8_0
        try clear hcz8_1
        try clear hcz8_2
        try clear hcz8_3
        try clear hfz14_0
        try clear hfz14_1
        try clear hfz14_2
        try clear hfz14_3
        try clear hfz6_0
        try clear hfz6_1
        try clear hfz6_2
        try clear hfz6_3
        try clear hfz8_0
        try clear hfz8_1
        try clear hfz8_2
        try clear hfz8_3
        try clear p2
        obtain ⟨kq, x3_15, rfl, HA, HJ15, BK104, HB⟩ := hcut
        cases kq with
        | zero => exact absurd HA.out (by simp [tree_TypeText.j2])
        | succ kj15 =>
         have H := HA.out
         clear HA
         simp only [tree_TypeText.j2] at H
         by_cases c19 : 0 ≤ x25_2
         ·rw [if_pos c19] at H
          have c19b0 : decide (0 ≤ x25_2) = true := decide_eq_true c19
          clear c19
          by_cases c20 : x25_2 < (a0_3.size : Int)
          ·rw [if_pos c20] at H
           have c20b0 : decide (x25_2 < (a0_3.size : Int)) = true := decide_eq_true c20
           clear c20
           by_cases c22 : (bt a0_3 x25_2) = 63
           ·rw [if_pos c22] at H
            have c22b0 : ((bt a0_3 x25_2) == 63) = true := beq_iff_eq.mpr c22
            have c22b1 : ((bt a0_3 x25_2) != 63) = false := bne_eq_false_iff_eq.mpr c22
            clear c22
            by_cases c23 : x3_15.size + 1 ≤ 9223372036854775807
            ·rw [if_pos c23] at H
             have c23b0 := eq_true c23
             have c23b1 : decide (x3_15.size + 1 ≤ 9223372036854775807) = true := decide_eq_true c23
             try have c23b2 : (9223372036854775807 < x3_15.size + 1) = False := eq_false (Nat.not_lt.2 c23)
             have H' := Aside0.mk H
             clear H
             have hcz24_0 : wc.cell? ⟨gb104, 0, none⟩ = some (.int .i64 a0_0) := (blk_cell BK104.out 0).trans rfl
             have hcz24_1 : wc.cell? ⟨gb104, 1, none⟩ = some (.string a0_1) := (blk_cell BK104.out 1).trans rfl
             have hcz24_2 : wc.cell? ⟨gb104, 2, none⟩ = some (.int .i64 a0_2) := (blk_cell BK104.out 2).trans rfl
             have hcz24_3 : wc.cell? ⟨gb104, 3, none⟩ = some (.string a0_3) := (blk_cell BK104.out 3).trans rfl
             have hfz24_0 := blk_frozen BK104.out 0
             have hfz24_1 := blk_frozen BK104.out 1
             have hfz24_2 := blk_frozen BK104.out 2
             have hfz24_3 := blk_frozen BK104.out 3
             have p21 : 0 ≤ (x25_2 : Int) := of_decide_eq_true (by first | (with_reducible assumption) | assumption)
             have q21 : x25_2 < (a0_3.size : Int) := of_decide_eq_true (by first | (with_reducible assumption) | assumption)
             have hx21 := bt_at a0_3 x25_2
             replace p21 := eq_true p21
             replace q21 := eq_true q21
             go_wp2
             go_roundg kj15
             case measure => have := HJ3.out; have := HK2.out; have := HJ15.out; omega
             case rel => exact ⟨(x3_15 ++ (⟨#[63]⟩ : ByteArray)), (wrap64 (x25_2 + 1)), (by first | rfl | (simp; done) | (simp [*]; done)), (by first | rfl | (simp; done) | (simp [*]; done)), H', ⟨by have := HJ3.out; have := HK2.out; have := HJ15.out; omega⟩, ⟨pxq BK104⟩, ⟨pxb HB⟩⟩
            ·rw [if_neg c23] at H
             exact absurd H (by simp)
           ·rw [if_neg c22] at H
            have c22b0 : ((bt a0_3 x25_2) == 63) = false := beq_eq_false_iff_ne.mpr c22
            have c22b1 : ((bt a0_3 x25_2) != 63) = true := bne_iff_ne.mpr c22
            by_cases c25 : (bt a0_3 x25_2) = 111
            ·rw [if_pos c25] at H
             have c25b0 : ((bt a0_3 x25_2) == 111) = true := beq_iff_eq.mpr c25
             have c25b1 : ((bt a0_3 x25_2) != 111) = false := bne_eq_false_iff_eq.mpr c25
             clear c25
             by_cases c26 : 7 + x3_15.size ≤ 9223372036854775807
             ·rw [if_pos c26] at H
              have c26b0 := eq_true c26
              have c26b1 : decide (7 + x3_15.size ≤ 9223372036854775807) = true := decide_eq_true c26
              try have c26b2 : (9223372036854775807 < 7 + x3_15.size) = False := eq_false (Nat.not_lt.2 c26)
              by_cases c27 : ((⟨#[79, 112, 116, 105, 111, 110, 60]⟩ : ByteArray) ++ x3_15).size + 1 ≤ 9223372036854775807
              ·rw [if_pos c27] at H
               have c27b0 := eq_true c27
               have c27b1 : decide (((⟨#[79, 112, 116, 105, 111, 110, 60]⟩ : ByteArray) ++ x3_15).size + 1 ≤ 9223372036854775807) = true := decide_eq_true c27
               try have c27b2 : (9223372036854775807 < ((⟨#[79, 112, 116, 105, 111, 110, 60]⟩ : ByteArray) ++ x3_15).size + 1) = False := eq_false (Nat.not_lt.2 c27)
               try have c27b6 : (7 + x3_15.size + 1 ≤ 9223372036854775807) = True := eq_true (by have h_ := c27; rw [ByteArray.size_append] at h_; exact h_)
               try have c27b7 : (9223372036854775807 < 7 + x3_15.size + 1) = False := eq_false (Nat.not_lt.2 (by have h_ := c27; rw [ByteArray.size_append] at h_; exact h_))
               have H' := Aside0.mk H
               clear H
               have hcz28_0 : wc.cell? ⟨gb104, 0, none⟩ = some (.int .i64 a0_0) := (blk_cell BK104.out 0).trans rfl
               have hcz28_1 : wc.cell? ⟨gb104, 1, none⟩ = some (.string a0_1) := (blk_cell BK104.out 1).trans rfl
               have hcz28_2 : wc.cell? ⟨gb104, 2, none⟩ = some (.int .i64 a0_2) := (blk_cell BK104.out 2).trans rfl
               have hcz28_3 : wc.cell? ⟨gb104, 3, none⟩ = some (.string a0_3) := (blk_cell BK104.out 3).trans rfl
               have hfz28_0 := blk_frozen BK104.out 0
               have hfz28_1 := blk_frozen BK104.out 1
               have hfz28_2 := blk_frozen BK104.out 2
               have hfz28_3 := blk_frozen BK104.out 3
               have p21 : 0 ≤ (x25_2 : Int) := of_decide_eq_true (by first | (with_reducible assumption) | assumption)
               have q21 : x25_2 < (a0_3.size : Int) := of_decide_eq_true (by first | (with_reducible assumption) | assumption)
               have hx21 := bt_at a0_3 x25_2
               replace p21 := eq_true p21
               replace q21 := eq_true q21
               go_wp2
               go_roundg kj15
               case measure => have := HJ3.out; have := HK2.out; have := HJ15.out; omega
               case rel => exact ⟨(((⟨#[79, 112, 116, 105, 111, 110, 60]⟩ : ByteArray) ++ x3_15) ++ (⟨#[62]⟩ : ByteArray)), (wrap64 (x25_2 + 1)), (by first | rfl | (simp; done) | (simp [*]; done)), (by first | rfl | (simp; done) | (simp [*]; done)), H', ⟨by have := HJ3.out; have := HK2.out; have := HJ15.out; omega⟩, ⟨pxq BK104⟩, ⟨pxb HB⟩⟩
              ·rw [if_neg c27] at H
               exact absurd H (by simp)
             ·rw [if_neg c26] at H
              exact absurd H (by simp)
            ·rw [if_neg c25] at H
             have c25b0 : ((bt a0_3 x25_2) == 111) = false := beq_eq_false_iff_ne.mpr c25
             have c25b1 : ((bt a0_3 x25_2) != 111) = true := bne_iff_ne.mpr c25
             have H' := Aside0.mk H
             clear H
             have hcz29_0 : wc.cell? ⟨gb104, 0, none⟩ = some (.int .i64 a0_0) := (blk_cell BK104.out 0).trans rfl
             have hcz29_1 : wc.cell? ⟨gb104, 1, none⟩ = some (.string a0_1) := (blk_cell BK104.out 1).trans rfl
             have hcz29_2 : wc.cell? ⟨gb104, 2, none⟩ = some (.int .i64 a0_2) := (blk_cell BK104.out 2).trans rfl
             have hcz29_3 : wc.cell? ⟨gb104, 3, none⟩ = some (.string a0_3) := (blk_cell BK104.out 3).trans rfl
             have hfz29_0 := blk_frozen BK104.out 0
             have hfz29_1 := blk_frozen BK104.out 1
             have hfz29_2 := blk_frozen BK104.out 2
             have hfz29_3 := blk_frozen BK104.out 3
             have p21 : 0 ≤ (x25_2 : Int) := of_decide_eq_true (by first | (with_reducible assumption) | assumption)
             have q21 : x25_2 < (a0_3.size : Int) := of_decide_eq_true (by first | (with_reducible assumption) | assumption)
             have hx21 := bt_at a0_3 x25_2
             replace p21 := eq_true p21
             replace q21 := eq_true q21
             go_wp2
             go_roundg kj15
             case measure => have := HJ3.out; have := HK2.out; have := HJ15.out; omega
             case rel => exact ⟨(x3_15), (wrap64 (x25_2 + 1)), (by first | rfl | (simp; done) | (simp [*]; done)), (by first | rfl | (simp; done) | (simp [*]; done)), H', ⟨by have := HJ3.out; have := HK2.out; have := HJ15.out; omega⟩, ⟨pxq BK104⟩, ⟨pxb HB⟩⟩
          ·rw [if_neg c20] at H
           exact absurd H (by simp)
         ·rw [if_neg c19] at H
          exact absurd H (by simp)
      ·rw [if_neg c15] at H
       have c15b0 : decide (x25_2 < (a0_3.size : Int)) = false := decide_eq_false c15
       clear c15
       obtain rfl := Option.some.inj H
       go_wp2
       go_ret
       exact ⟨by first | rfl | (simp [errW_none, errW_some] <;> rfl) | (simp [*, errW_none, errW_some] <;> rfl), pxb HB⟩
 ·replace c3 := Bool.eq_false_iff.mpr c3
  subst c3
  have H1 : (some (⟨#[]⟩ : ByteArray)) = some r := by rw [if_neg (show ¬ (false = true) by decide)] at H; exact H
  clear H
  have H := H1
  clear H1
  obtain rfl := Option.some.inj H
  go_enter Try.func35, Try.ntmps35
  go_wp2_with (first | ((with_reducible refine gate_dst (N := 1) rfl ?_); refine box_event ?hg (N := 1) ?hd (cs := #[.int .i64 a0_0, .string a0_1, .int .i64 a0_2, .string a0_3]) (t := 23) ?hr ?_; (case hd => rfl); (case hg => rfl); (case hr => first | (go_simp; done) | (go_simp; rfl)); intro gb104 hg w30 hbox hb; have n0_ := pxs HB hb; have n1_ := Aside0.mk (hbox); have n2_ := Aside0.mk ((by rw [hg]; exact (below_size (pxb HB)) : w.heap.size ≤ gb104)); have n3_ := Aside0.mk ((by rw [hg]; exact (below_size (pxb HB)) : w.heap.size ≤ gb104)); clear HB; have HB := n0_; have BK104 := n1_; have GW104 := n2_; have GE104 := n3_; clear n0_ n1_ n2_ n3_; clear hb hbox hg; have hcz31_0 : w30.cell? ⟨gb104, 0, none⟩ = some (.int .i64 a0_0) := (blk_cell BK104.out 0).trans rfl; have hcz31_1 : w30.cell? ⟨gb104, 1, none⟩ = some (.string a0_1) := (blk_cell BK104.out 1).trans rfl; have hcz31_2 : w30.cell? ⟨gb104, 2, none⟩ = some (.int .i64 a0_2) := (blk_cell BK104.out 2).trans rfl; have hcz31_3 : w30.cell? ⟨gb104, 3, none⟩ = some (.string a0_3) := (blk_cell BK104.out 3).trans rfl; have hfz31_0 := blk_frozen BK104.out 0; have hfz31_1 := blk_frozen BK104.out 1; have hfz31_2 := blk_frozen BK104.out 2; have hfz31_3 := blk_frozen BK104.out 3) | ((with_reducible refine gate_callee (f := 42) rfl ?_); refine goesL_ (some 6) rfl rfl Try.func42 (by kernel_rfl) rfl #[.agg #[.int .i64 a0_0, .string a0_1, .int .i64 a0_2, .string a0_3]] rfl (by (try simp only [List.map_toArray, List.map_cons, List.map_nil]); first | done | rfl | (simp only [List.length_drop, List.length_take]; rfl)) ?_; (with_reducible refine (tree_typed.calls k a0_0 a0_1 a0_2 a0_3 false _ A2.out).mono ?_); rintro e w32 ⟨rfl, hb⟩; refine ⟨_, rfl, ?_⟩; have n0_ := pxk BK104 hb; have n1_ := pxs HB hb; clear BK104; clear HB; have BK104 := n0_; have HB := n1_; clear n0_ n1_; (try clear hb); (try clear hb2); (try clear hk); (try clear hi)))
  go_ret
  exact ⟨by first | rfl | (simp [errW_none, errW_some] <;> rfl) | (simp [*, errW_none, errW_some] <;> rfl), pxb HB⟩

end Go.Proofs.Ytljchkghnmnpgaa.X
