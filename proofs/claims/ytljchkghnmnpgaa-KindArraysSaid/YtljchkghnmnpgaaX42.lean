/- What the program's functions answer, as Lean functions, and that each call does just that; no condition. Written by a program (px.py) out of the translation. -/
import Derived.Test.YtljchkghnmnpgaaX0
import Derived.Test.YtljchkghnmnpgaaShort2
namespace Go.Proofs.Ytljchkghnmnpgaa.X
open Go.RowKit Go.Proofs.YtljchkghnmnpgaaW.PrintWords Go.Proofs.YtljchkghnmnpgaaW.PrintLast Go.Proofs.YtljchkghnmnpgaaW.PrintMore
attribute [local go_sem] max2_int min2_int max_two min_two max_three min_three max_four min_four   -- for this text's walks alone
set_option linter.unusedVariables false
set_option linter.unusedSimpArgs false

/-! ### tree_typed: function 42 -/
mutual
def tree_typed.j0 : Nat → Bool → Int → ByteArray → Int → ByteArray → Option (Bool)
 | 0, _, _, _, _, _ => none
 | k + 1, x49, x104000, x104001, x104002, x104003 => if x49 = true then (some false) else (tree_typed.l0 k (x104003.size : Int) 0 x104000 x104001 x104002 x104003)
def tree_typed.l0 : Nat → Int → Int → Int → ByteArray → Int → ByteArray → Option (Bool)
 | 0, _, _, _, _, _, _ => none
 | k + 1, x52, x53, x104000, x104001, x104002, x104003 => if x53 < x52 then (if 0 ≤ x53 then (if x53 < (x104003.size : Int) then (if (bt x104003 x53) = 32 then (tree_typed.l0 k x52 (wrap64 (x53 + 1)) x104000 x104001 x104002 x104003) else (if (bt x104003 x53) = 63 then (tree_typed.j2 k x53 x52 x53 ((bt x104003 x53) == 63) x104000 x104001 x104002 x104003) else (tree_typed.j2 k x53 x52 x53 ((bt x104003 x53) == 111) x104000 x104001 x104002 x104003))) else (none)) else (none)) else (some true)
def tree_typed.j2 : Nat → Int → Int → Int → Bool → Int → ByteArray → Int → ByteArray → Option (Bool)
 | 0, _, _, _, _, _, _, _, _ => none
 | k + 1, x3, x52, x53, x62, x104000, x104001, x104002, x104003 => if x62 = true then (if x3 = 0 then (if x104000 = 5 then (if 0 ≤ x3 then (if x3 < (x104003.size : Int) then (if (bt x104003 x3) = 111 then (if x3 < x104002 then (some false) else (tree_typed.l0 k x52 (wrap64 (x53 + 1)) x104000 x104001 x104002 x104003)) else (tree_typed.l0 k x52 (wrap64 (x53 + 1)) x104000 x104001 x104002 x104003)) else (none)) else (none)) else (some false)) else (if 0 ≤ x3 then (if x3 < (x104003.size : Int) then (if (bt x104003 x3) = 111 then (if x3 < x104002 then (some false) else (tree_typed.l0 k x52 (wrap64 (x53 + 1)) x104000 x104001 x104002 x104003)) else (tree_typed.l0 k x52 (wrap64 (x53 + 1)) x104000 x104001 x104002 x104003)) else (none)) else (none))) else (some false)
end
def tree_typed.f (k : Nat) (a0_0 : Int) (a0_1 : ByteArray) (a0_2 : Int) (a0_3 : ByteArray) : Option (Bool) := if a0_2 < 0 then (tree_typed.j0 k true a0_0 a0_1 a0_2 a0_3) else (if a0_2 > 4 then (tree_typed.j0 k true a0_0 a0_1 a0_2 a0_3) else (if (a0_3.size : Int) = (wrap64 (a0_2 + 1)) then (if a0_0 < 1 then (tree_typed.j0 k true a0_0 a0_1 a0_2 a0_3) else (if a0_0 > 6 then (tree_typed.j0 k true a0_0 a0_1 a0_2 a0_3) else (if ((a0_0 == 5) != (a0_1.toList != ([] : List UInt8))) = true then (tree_typed.j0 k true a0_0 a0_1 a0_2 a0_3) else (if a0_0 = 6 then (tree_typed.j0 k (decide (a0_2 > 0)) a0_0 a0_1 a0_2 a0_3) else (tree_typed.j0 k false a0_0 a0_1 a0_2 a0_3))))) else (tree_typed.j0 k true a0_0 a0_1 a0_2 a0_3)))
theorem tree_typed.mono_l : ∀ k, (∀ y0 y1 y2 y3 y4, LeO (tree_typed.j0 k y0 y1 y2 y3 y4) (tree_typed.j0 (k + 1) y0 y1 y2 y3 y4)) ∧ (∀ y0 y1 y2 y3 y4 y5, LeO (tree_typed.l0 k y0 y1 y2 y3 y4 y5) (tree_typed.l0 (k + 1) y0 y1 y2 y3 y4 y5)) ∧ (∀ y0 y1 y2 y3 y4 y5 y6 y7, LeO (tree_typed.j2 k y0 y1 y2 y3 y4 y5 y6 y7) (tree_typed.j2 (k + 1) y0 y1 y2 y3 y4 y5 y6 y7))
 | 0 => ⟨fun _ _ _ _ _ r h => by simp [tree_typed.j0] at h, fun _ _ _ _ _ _ r h => by simp [tree_typed.l0] at h, fun _ _ _ _ _ _ _ _ r h => by simp [tree_typed.j2] at h⟩
 | k + 1 => by
  obtain ⟨ih0, ih1, ih2⟩ := tree_typed.mono_l k
  refine ⟨?_, ?_, ?_⟩
  ·intro y0 y1 y2 y3 y4
   unfold tree_typed.j0
   repeat' first
   | (with_reducible exact ih0 _ _ _ _ _)
   | (with_reducible exact ih1 _ _ _ _ _ _)
   | (with_reducible exact ih2 _ _ _ _ _ _ _ _)
   | (with_reducible exact LeO.refl _)
   | (with_reducible exact LeO.none _)
   | (with_reducible refine LeO.ite ?_ ?_)
   | (with_reducible refine LeO.bind ?_ (fun _ => ?_))
   | exact ih0 _ _ _ _ _
   | exact ih1 _ _ _ _ _ _
   | exact ih2 _ _ _ _ _ _ _ _
   | exact LeO.none _
   | refine LeO.ite ?_ ?_
   | refine LeO.bind ?_ (fun _ => ?_)
  ·intro y0 y1 y2 y3 y4 y5
   unfold tree_typed.l0
   repeat' first
   | (with_reducible exact ih0 _ _ _ _ _)
   | (with_reducible exact ih1 _ _ _ _ _ _)
   | (with_reducible exact ih2 _ _ _ _ _ _ _ _)
   | (with_reducible exact LeO.refl _)
   | (with_reducible exact LeO.none _)
   | (with_reducible refine LeO.ite ?_ ?_)
   | (with_reducible refine LeO.bind ?_ (fun _ => ?_))
   | exact ih0 _ _ _ _ _
   | exact ih1 _ _ _ _ _ _
   | exact ih2 _ _ _ _ _ _ _ _
   | exact LeO.none _
   | refine LeO.ite ?_ ?_
   | refine LeO.bind ?_ (fun _ => ?_)
  ·intro y0 y1 y2 y3 y4 y5 y6 y7
   unfold tree_typed.j2
   repeat' first
   | (with_reducible exact ih0 _ _ _ _ _)
   | (with_reducible exact ih1 _ _ _ _ _ _)
   | (with_reducible exact ih2 _ _ _ _ _ _ _ _)
   | (with_reducible exact LeO.refl _)
   | (with_reducible exact LeO.none _)
   | (with_reducible refine LeO.ite ?_ ?_)
   | (with_reducible refine LeO.bind ?_ (fun _ => ?_))
   | exact ih0 _ _ _ _ _
   | exact ih1 _ _ _ _ _ _
   | exact ih2 _ _ _ _ _ _ _ _
   | exact LeO.none _
   | refine LeO.ite ?_ ?_
   | refine LeO.bind ?_ (fun _ => ?_)
theorem tree_typed.mono : ∀ a0 a1 a2 a3 k, LeO (tree_typed.f k a0 a1 a2 a3) (tree_typed.f (k + 1) a0 a1 a2 a3) := by
 intro a0 a1 a2 a3 k
 obtain ⟨ih0, ih1, ih2⟩ := tree_typed.mono_l k
 unfold tree_typed.f
 repeat' first
   | (with_reducible exact ih0 _ _ _ _ _)
   | (with_reducible exact ih1 _ _ _ _ _ _)
   | (with_reducible exact ih2 _ _ _ _ _ _ _ _)
   | (with_reducible exact LeO.refl _)
   | (with_reducible exact LeO.none _)
   | (with_reducible refine LeO.ite ?_ ?_)
   | (with_reducible refine LeO.bind ?_ (fun _ => ?_))
   | exact ih0 _ _ _ _ _
   | exact ih1 _ _ _ _ _ _
   | exact ih2 _ _ _ _ _ _ _ _
   | exact LeO.none _
   | refine LeO.ite ?_ ?_
   | refine LeO.bind ?_ (fun _ => ?_)
set_option maxHeartbeats 8000000 in
set_option maxRecDepth 100000 in
theorem tree_typed.calls (k : Nat) (a0_0 : Int) (a0_1 : ByteArray) (a0_2 : Int) (a0_3 : ByteArray) (r : Bool) (w : World) (h : tree_typed.f k a0_0 a0_1 a0_2 a0_3 = some r) :
  Calls Try.prog 42 #[.agg #[.int .i64 a0_0, .string a0_1, .int .i64 a0_2, .string a0_3]] w fun e w' => e = .returned (.bool r) ∧ Below w.heap.size w w' := by
 have hu23 := Try.underlying23
 have HB := Aside0.mk (Below.refl w.heap.size w)
 have H : (if a0_2 < 0 then (tree_typed.j0 k true a0_0 a0_1 a0_2 a0_3) else (if a0_2 > 4 then (tree_typed.j0 k true a0_0 a0_1 a0_2 a0_3) else (if (a0_3.size : Int) = (wrap64 (a0_2 + 1)) then (if a0_0 < 1 then (tree_typed.j0 k true a0_0 a0_1 a0_2 a0_3) else (if a0_0 > 6 then (tree_typed.j0 k true a0_0 a0_1 a0_2 a0_3) else (if ((a0_0 == 5) != (a0_1.toList != ([] : List UInt8))) = true then (tree_typed.j0 k true a0_0 a0_1 a0_2 a0_3) else (if a0_0 = 6 then (tree_typed.j0 k (decide (a0_2 > 0)) a0_0 a0_1 a0_2 a0_3) else (tree_typed.j0 k false a0_0 a0_1 a0_2 a0_3))))) else (tree_typed.j0 k true a0_0 a0_1 a0_2 a0_3)))) = some r := h
 clear h
 have HC2 := Aside0.mk H
 clear H
 go_enter Try.func42, Try.ntmps42
 go_upto_region 1 with (first | ((with_reducible refine gate_dst (N := 1) rfl ?_); refine box_event ?hg (N := 1) ?hd (cs := #[.int .i64 a0_0, .string a0_1, .int .i64 a0_2, .string a0_3]) (t := 23) ?hr ?_; (case hd => rfl); (case hg => rfl); (case hr => first | (go_simp; done) | (go_simp; rfl)); intro gb103 hg w3 hbox hb; have n0_ := pxs HB hb; have n1_ := Aside0.mk (hbox); have n2_ := Aside0.mk ((by rw [hg]; exact (below_size (pxb HB)) : w.heap.size ≤ gb103)); have n3_ := Aside0.mk ((by rw [hg]; exact (below_size (pxb HB)) : w.heap.size ≤ gb103)); clear HB; have HB := n0_; have BK103 := n1_; have GW103 := n2_; have GE103 := n3_; clear n0_ n1_ n2_ n3_; clear hb hbox hg))
 (try simp only [Act.put, List.setIfInBounds_toArray, List.set_cons_zero, List.set_cons_succ])
 go_cut [49] (fun v49 wc => ∃ (kq : Nat) (x49_1 : Bool), v49 = .bool x49_1 ∧ Aside0 (tree_typed.j0 kq x49_1 a0_0 a0_1 a0_2 a0_3 = some r) ∧ Aside0 (kq ≤ k) ∧ Aside0 (wc.heap[gb103]? = some (.cells #[.int .i64 a0_0, .string a0_1, .int .i64 a0_2, .string a0_3] 23 (0, 0))) ∧ Aside0 (Below w.heap.size w wc))
 case first =>
  have H := HC2.out
  clear HC2
  by_cases c4 : a0_2 < 0
  ·rw [if_pos c4] at H
   have c4b0 : decide (a0_2 < 0) = true := decide_eq_true c4
   clear c4
   (first | rw [c4b0] | (simp only [i64_w, i32_w]; rw [c4b0]) | skip)
   have H' := Aside0.mk H
   clear H
   have hcz5_0 : w3.cell? ⟨gb103, 0, none⟩ = some (.int .i64 a0_0) := (blk_cell BK103.out 0).trans rfl
   have hcz5_1 : w3.cell? ⟨gb103, 1, none⟩ = some (.string a0_1) := (blk_cell BK103.out 1).trans rfl
   have hcz5_2 : w3.cell? ⟨gb103, 2, none⟩ = some (.int .i64 a0_2) := (blk_cell BK103.out 2).trans rfl
   have hcz5_3 : w3.cell? ⟨gb103, 3, none⟩ = some (.string a0_3) := (blk_cell BK103.out 3).trans rfl
   have hfz5_0 := blk_frozen BK103.out 0
   have hfz5_1 := blk_frozen BK103.out 1
   have hfz5_2 := blk_frozen BK103.out 2
   have hfz5_3 := blk_frozen BK103.out 3
   go_wp2
   go_meet
   case rel => exact ⟨_, (true), (by first | rfl | (simp; done) | (simp [*]; done)), H', ⟨by first | omega | exact Nat.le_refl _⟩, ⟨pxq BK103⟩, ⟨pxb HB⟩⟩
  ·rw [if_neg c4] at H
   have c4b0 : decide (a0_2 < 0) = false := decide_eq_false c4
   clear c4
   (first | rw [c4b0] | (simp only [i64_w, i32_w]; rw [c4b0]) | skip)
   by_cases c6 : a0_2 > 4
   ·rw [if_pos c6] at H
    have c6b0 : decide (4 < a0_2) = true := decide_eq_true c6
    clear c6
    have H' := Aside0.mk H
    clear H
    have hcz7_0 : w3.cell? ⟨gb103, 0, none⟩ = some (.int .i64 a0_0) := (blk_cell BK103.out 0).trans rfl
    have hcz7_1 : w3.cell? ⟨gb103, 1, none⟩ = some (.string a0_1) := (blk_cell BK103.out 1).trans rfl
    have hcz7_2 : w3.cell? ⟨gb103, 2, none⟩ = some (.int .i64 a0_2) := (blk_cell BK103.out 2).trans rfl
    have hcz7_3 : w3.cell? ⟨gb103, 3, none⟩ = some (.string a0_3) := (blk_cell BK103.out 3).trans rfl
    have hfz7_0 := blk_frozen BK103.out 0
    have hfz7_1 := blk_frozen BK103.out 1
    have hfz7_2 := blk_frozen BK103.out 2
    have hfz7_3 := blk_frozen BK103.out 3
    go_wp2
    go_meet
    case rel => exact ⟨_, (true), (by first | rfl | (simp; done) | (simp [*]; done)), H', ⟨by first | omega | exact Nat.le_refl _⟩, ⟨pxq BK103⟩, ⟨pxb HB⟩⟩
   ·rw [if_neg c6] at H
    have c6b0 : decide (4 < a0_2) = false := decide_eq_false c6
    clear c6
    by_cases c8 : (a0_3.size : Int) = (wrap64 (a0_2 + 1))
    ·rw [if_pos c8] at H
     have c8b0 : ((a0_3.size : Int) == (wrap64 (a0_2 + 1))) = true := beq_iff_eq.mpr c8
     have c8b1 : ((a0_3.size : Int) != (wrap64 (a0_2 + 1))) = false := bne_eq_false_iff_eq.mpr c8
     clear c8
     by_cases c9 : a0_0 < 1
     ·rw [if_pos c9] at H
      have c9b0 : decide (a0_0 < 1) = true := decide_eq_true c9
      clear c9
      have H' := Aside0.mk H
      clear H
      have hcz10_0 : w3.cell? ⟨gb103, 0, none⟩ = some (.int .i64 a0_0) := (blk_cell BK103.out 0).trans rfl
      have hcz10_1 : w3.cell? ⟨gb103, 1, none⟩ = some (.string a0_1) := (blk_cell BK103.out 1).trans rfl
      have hcz10_2 : w3.cell? ⟨gb103, 2, none⟩ = some (.int .i64 a0_2) := (blk_cell BK103.out 2).trans rfl
      have hcz10_3 : w3.cell? ⟨gb103, 3, none⟩ = some (.string a0_3) := (blk_cell BK103.out 3).trans rfl
      have hfz10_0 := blk_frozen BK103.out 0
      have hfz10_1 := blk_frozen BK103.out 1
      have hfz10_2 := blk_frozen BK103.out 2
      have hfz10_3 := blk_frozen BK103.out 3
      go_wp2
      go_meet
      case rel => exact ⟨_, (true), (by first | rfl | (simp; done) | (simp [*]; done)), H', ⟨by first | omega | exact Nat.le_refl _⟩, ⟨pxq BK103⟩, ⟨pxb HB⟩⟩
     ·rw [if_neg c9] at H
      have c9b0 : decide (a0_0 < 1) = false := decide_eq_false c9
      clear c9
      by_cases c11 : a0_0 > 6
      ·rw [if_pos c11] at H
       have c11b0 : decide (6 < a0_0) = true := decide_eq_true c11
       clear c11
       have H' := Aside0.mk H
       clear H
       have hcz12_0 : w3.cell? ⟨gb103, 0, none⟩ = some (.int .i64 a0_0) := (blk_cell BK103.out 0).trans rfl
       have hcz12_1 : w3.cell? ⟨gb103, 1, none⟩ = some (.string a0_1) := (blk_cell BK103.out 1).trans rfl
       have hcz12_2 : w3.cell? ⟨gb103, 2, none⟩ = some (.int .i64 a0_2) := (blk_cell BK103.out 2).trans rfl
       have hcz12_3 : w3.cell? ⟨gb103, 3, none⟩ = some (.string a0_3) := (blk_cell BK103.out 3).trans rfl
       have hfz12_0 := blk_frozen BK103.out 0
       have hfz12_1 := blk_frozen BK103.out 1
       have hfz12_2 := blk_frozen BK103.out 2
       have hfz12_3 := blk_frozen BK103.out 3
       go_wp2
       go_meet
       case rel => exact ⟨_, (true), (by first | rfl | (simp; done) | (simp [*]; done)), H', ⟨by first | omega | exact Nat.le_refl _⟩, ⟨pxq BK103⟩, ⟨pxb HB⟩⟩
      ·rw [if_neg c11] at H
       have c11b0 : decide (6 < a0_0) = false := decide_eq_false c11
       clear c11
       by_cases c13 : ((a0_0 == 5) != (a0_1.toList != ([] : List UInt8))) = true
       ·rw [if_pos c13] at H
        have c13b0 : ((a0_0 == 5) != (a0_1.toList != ([] : List UInt8))) = true := c13
        (try (have c13b0e : ((a0_0 == 5) != ((!a0_1.toList.isEmpty))) = true := by simpa only [pxbeq, pxbne] using c13b0))
        (try (have c13b1 : decide ((a0_0 == 5) = (a0_1.toList != ([] : List UInt8))) = false := by simpa using c13))
        (try (have c13b1e : decide ((a0_0 == 5) = ((!a0_1.toList.isEmpty))) = false := by simpa only [pxbeq, pxbne] using c13b1))
        (try (have c13b2 : ((a0_0 == 5) == (a0_1.toList != ([] : List UInt8))) = false := by simpa using c13))
        (try (have c13b2e : ((a0_0 == 5) == ((!a0_1.toList.isEmpty))) = false := by simpa only [pxbeq, pxbne] using c13b2))
        (try (have c13b3 : ¬ ((a0_0 == 5) = (a0_1.toList != ([] : List UInt8))) := by simpa using c13))
        clear c13
        have H' := Aside0.mk H
        clear H
        have hcz14_0 : w3.cell? ⟨gb103, 0, none⟩ = some (.int .i64 a0_0) := (blk_cell BK103.out 0).trans rfl
        have hcz14_1 : w3.cell? ⟨gb103, 1, none⟩ = some (.string a0_1) := (blk_cell BK103.out 1).trans rfl
        have hcz14_2 : w3.cell? ⟨gb103, 2, none⟩ = some (.int .i64 a0_2) := (blk_cell BK103.out 2).trans rfl
        have hcz14_3 : w3.cell? ⟨gb103, 3, none⟩ = some (.string a0_3) := (blk_cell BK103.out 3).trans rfl
        have hfz14_0 := blk_frozen BK103.out 0
        have hfz14_1 := blk_frozen BK103.out 1
        have hfz14_2 := blk_frozen BK103.out 2
        have hfz14_3 := blk_frozen BK103.out 3
        go_wp2
        go_meet
        case rel => exact ⟨_, (true), (by first | rfl | (simp; done) | (simp [*]; done)), H', ⟨by first | omega | exact Nat.le_refl _⟩, ⟨pxq BK103⟩, ⟨pxb HB⟩⟩
       ·rw [if_neg c13] at H
        have c13b0 : ((a0_0 == 5) != (a0_1.toList != ([] : List UInt8))) = false := by simpa using c13
        (try (have c13b0e : ((a0_0 == 5) != ((!a0_1.toList.isEmpty))) = false := by simpa only [pxbeq, pxbne] using c13b0))
        (try (have c13b1 : decide ((a0_0 == 5) = (a0_1.toList != ([] : List UInt8))) = true := by simpa using c13))
        (try (have c13b1e : decide ((a0_0 == 5) = ((!a0_1.toList.isEmpty))) = true := by simpa only [pxbeq, pxbne] using c13b1))
        (try (have c13b2 : ((a0_0 == 5) == (a0_1.toList != ([] : List UInt8))) = true := by simpa using c13))
        (try (have c13b2e : ((a0_0 == 5) == ((!a0_1.toList.isEmpty))) = true := by simpa only [pxbeq, pxbne] using c13b2))
        clear c13
        by_cases c15 : a0_0 = 6
        ·rw [if_pos c15] at H
         have c15b0 : (a0_0 == 6) = true := beq_iff_eq.mpr c15
         have c15b1 : (a0_0 != 6) = false := bne_eq_false_iff_eq.mpr c15
         clear c15
         have H' := Aside0.mk H
         clear H
         have hcz16_0 : w3.cell? ⟨gb103, 0, none⟩ = some (.int .i64 a0_0) := (blk_cell BK103.out 0).trans rfl
         have hcz16_1 : w3.cell? ⟨gb103, 1, none⟩ = some (.string a0_1) := (blk_cell BK103.out 1).trans rfl
         have hcz16_2 : w3.cell? ⟨gb103, 2, none⟩ = some (.int .i64 a0_2) := (blk_cell BK103.out 2).trans rfl
         have hcz16_3 : w3.cell? ⟨gb103, 3, none⟩ = some (.string a0_3) := (blk_cell BK103.out 3).trans rfl
         have hfz16_0 := blk_frozen BK103.out 0
         have hfz16_1 := blk_frozen BK103.out 1
         have hfz16_2 := blk_frozen BK103.out 2
         have hfz16_3 := blk_frozen BK103.out 3
         go_wp2
         go_meet
         case rel => exact ⟨_, (decide (a0_2 > 0)), (by first | rfl | (simp; done) | (simp [*]; done)), H', ⟨by first | omega | exact Nat.le_refl _⟩, ⟨pxq BK103⟩, ⟨pxb HB⟩⟩
        ·rw [if_neg c15] at H
         have c15b0 : (a0_0 == 6) = false := beq_eq_false_iff_ne.mpr c15
         have c15b1 : (a0_0 != 6) = true := bne_iff_ne.mpr c15
         have H' := Aside0.mk H
         clear H
         have hcz17_0 : w3.cell? ⟨gb103, 0, none⟩ = some (.int .i64 a0_0) := (blk_cell BK103.out 0).trans rfl
         have hcz17_1 : w3.cell? ⟨gb103, 1, none⟩ = some (.string a0_1) := (blk_cell BK103.out 1).trans rfl
         have hcz17_2 : w3.cell? ⟨gb103, 2, none⟩ = some (.int .i64 a0_2) := (blk_cell BK103.out 2).trans rfl
         have hcz17_3 : w3.cell? ⟨gb103, 3, none⟩ = some (.string a0_3) := (blk_cell BK103.out 3).trans rfl
         have hfz17_0 := blk_frozen BK103.out 0
         have hfz17_1 := blk_frozen BK103.out 1
         have hfz17_2 := blk_frozen BK103.out 2
         have hfz17_3 := blk_frozen BK103.out 3
         go_wp2
         go_meet
         case rel => exact ⟨_, (false), (by first | rfl | (simp; done) | (simp [*]; done)), H', ⟨by first | omega | exact Nat.le_refl _⟩, ⟨pxq BK103⟩, ⟨pxb HB⟩⟩
    ·rw [if_neg c8] at H
     have c8b0 : ((a0_3.size : Int) == (wrap64 (a0_2 + 1))) = false := beq_eq_false_iff_ne.mpr c8
     have c8b1 : ((a0_3.size : Int) != (wrap64 (a0_2 + 1))) = true := bne_iff_ne.mpr c8
     have H' := Aside0.mk H
     clear H
     have hcz18_0 : w3.cell? ⟨gb103, 0, none⟩ = some (.int .i64 a0_0) := (blk_cell BK103.out 0).trans rfl
     have hcz18_1 : w3.cell? ⟨gb103, 1, none⟩ = some (.string a0_1) := (blk_cell BK103.out 1).trans rfl
     have hcz18_2 : w3.cell? ⟨gb103, 2, none⟩ = some (.int .i64 a0_2) := (blk_cell BK103.out 2).trans rfl
     have hcz18_3 : w3.cell? ⟨gb103, 3, none⟩ = some (.string a0_3) := (blk_cell BK103.out 3).trans rfl
     have hfz18_0 := blk_frozen BK103.out 0
     have hfz18_1 := blk_frozen BK103.out 1
     have hfz18_2 := blk_frozen BK103.out 2
     have hfz18_3 := blk_frozen BK103.out 3
     go_wp2
     go_meet
     case rel => exact ⟨_, (true), (by first | rfl | (simp; done) | (simp [*]; done)), H', ⟨by first | omega | exact Nat.le_refl _⟩, ⟨pxq BK103⟩, ⟨pxb HB⟩⟩
 case rest =>
  clear HC2
  try clear c1
  try clear p2
  try clear c4
  try clear c4b0
  try clear c6
  try clear c6b0
  try clear p6
  try clear c8
  try clear c8b0
  try clear c8b1
  try clear c9
  try clear c9b0
  try clear c11
  try clear c11b0
  try clear c13
  try clear c13b0
  try clear c13b1
  try clear c13b2
  try clear c15
  try clear c15b0
  try clear c15b1
  try clear hcz10_0
  try clear hcz10_1
  try clear hcz10_2
  try clear hcz10_3
  try clear hcz12_0
  try clear hcz12_1
  try clear hcz12_2
  try clear hcz12_3
  try clear hcz14_0
  try clear hcz14_1
  try clear hcz14_2
  try clear hcz14_3
  try clear hcz16_0
  try clear hcz16_1
  try clear hcz16_2
  try clear hcz16_3
  try clear hcz17_0
  try clear hcz17_1
  try clear hcz17_2
  try clear hcz17_3
  try clear hcz18_0
  try clear hcz18_1
  try clear hcz18_2
  try clear hcz18_3
  try clear hcz5_0
  try clear hcz5_1
  try clear hcz5_2
  try clear hcz5_3
  try clear hcz7_0
  try clear hcz7_1
  try clear hcz7_2
  try clear hcz7_3
  try clear hfz10_0
  try clear hfz10_1
  try clear hfz10_2
  try clear hfz10_3
  try clear hfz12_0
  try clear hfz12_1
  try clear hfz12_2
  try clear hfz12_3
  try clear hfz14_0
  try clear hfz14_1
  try clear hfz14_2
  try clear hfz14_3
  try clear hfz16_0
  try clear hfz16_1
  try clear hfz16_2
  try clear hfz16_3
  try clear hfz17_0
  try clear hfz17_1
  try clear hfz17_2
  try clear hfz17_3
  try clear hfz18_0
  try clear hfz18_1
  try clear hfz18_2
  try clear hfz18_3
  try clear hfz5_0
  try clear hfz5_1
  try clear hfz5_2
  try clear hfz5_3
  try clear hfz7_0
  try clear hfz7_1
  try clear hfz7_2
  try clear hfz7_3
  obtain ⟨kq, x49_1, rfl, HA, HJ1, BK103, HB⟩ := hcut
  cases kq with
  | zero => exact absurd HA.out (by simp [tree_typed.j0])
  | succ kj1 =>
   have H := HA.out
   clear HA
   simp only [tree_typed.j0] at H
   by_cases c19 : x49_1 = true
   ·subst c19
    have H1 : (some false) = some r := by rw [if_pos rfl] at H; exact H
    clear H
    have H := H1
    clear H1
    obtain rfl := Option.some.inj H
    go_wp2
    go_ret
    exact ⟨by first | rfl | (simp [errW_none, errW_some] <;> rfl) | (simp [*, errW_none, errW_some] <;> rfl) | (simp [*, pxbeq, pxbne, errW_none, errW_some]; done), pxb HB⟩
   ·replace c19 := Bool.eq_false_iff.mpr c19
    subst c19
    have H1 : (tree_typed.l0 kj1 (a0_3.size : Int) 0 a0_0 a0_1 a0_2 a0_3) = some r := by rw [if_neg (show ¬ (false = true) by decide)] at H; exact H
    clear H
    have H := H1
    clear H1
    have H' := Aside0.mk H
    clear H
    have hcz20_0 : wc.cell? ⟨gb103, 0, none⟩ = some (.int .i64 a0_0) := (blk_cell BK103.out 0).trans rfl
    have hcz20_1 : wc.cell? ⟨gb103, 1, none⟩ = some (.string a0_1) := (blk_cell BK103.out 1).trans rfl
    have hcz20_2 : wc.cell? ⟨gb103, 2, none⟩ = some (.int .i64 a0_2) := (blk_cell BK103.out 2).trans rfl
    have hcz20_3 : wc.cell? ⟨gb103, 3, none⟩ = some (.string a0_3) := (blk_cell BK103.out 3).trans rfl
    have hfz20_0 := blk_frozen BK103.out 0
    have hfz20_1 := blk_frozen BK103.out 1
    have hfz20_2 := blk_frozen BK103.out 2
    have hfz20_3 := blk_frozen BK103.out 3
    go_wp2
    go_loopg [53] kj1 (fun kq v53 w' => ∃ (x53_2 : Int), v53 = .int .i64 x53_2 ∧ Aside0 (tree_typed.l0 kq (a0_3.size : Int) x53_2 a0_0 a0_1 a0_2 a0_3 = some r) ∧ Aside0 (kq ≤ kj1) ∧ Aside0 (w'.heap[gb103]? = some (.cells #[.int .i64 a0_0, .string a0_1, .int .i64 a0_2, .string a0_3] 23 (0, 0))) ∧ Aside0 (Below w.heap.size w w'))
    case atStart => exact ⟨(0), (by first | rfl | (simp; done) | (simp [*]; done)), H', ⟨Nat.le_refl _⟩, ⟨pxq BK103⟩, ⟨pxb HB⟩⟩
    case round =>
     clear H'
     try clear c1
     try clear p2
     try clear c4
     try clear c4b0
     try clear c6
     try clear c6b0
     try clear p6
     try clear c8
     try clear c8b0
     try clear c8b1
     try clear c9
     try clear c9b0
     try clear c11
     try clear c11b0
     try clear c13
     try clear c13b0
     try clear c13b1
     try clear c13b2
     try clear c15
     try clear c15b0
     try clear c15b1
     try clear c19
     try clear hcz10_0
     try clear hcz10_1
     try clear hcz10_2
     try clear hcz10_3
     try clear hcz12_0
     try clear hcz12_1
     try clear hcz12_2
     try clear hcz12_3
     try clear hcz14_0
     try clear hcz14_1
     try clear hcz14_2
     try clear hcz14_3
     try clear hcz16_0
     try clear hcz16_1
     try clear hcz16_2
     try clear hcz16_3
     try clear hcz17_0
     try clear hcz17_1
     try clear hcz17_2
     try clear hcz17_3
     try clear hcz18_0
     try clear hcz18_1
     try clear hcz18_2
     try clear hcz18_3
     try clear hcz20_0
     try clear hcz20_1
     try clear hcz20_2
     try clear hcz20_3
     try clear hcz5_0
     try clear hcz5_1
     try clear hcz5_2
     try clear hcz5_3
     try clear hcz7_0
     try clear hcz7_1
     try clear hcz7_2
     try clear hcz7_3
     try clear hfz10_0
     try clear hfz10_1
     try clear hfz10_2
     try clear hfz10_3
     try clear hfz12_0
     try clear hfz12_1
     try clear hfz12_2
     try clear hfz12_3
     try clear hfz14_0
     try clear hfz14_1
     try clear hfz14_2
     try clear hfz14_3
     try clear hfz16_0
     try clear hfz16_1
     try clear hfz16_2
     try clear hfz16_3
     try clear hfz17_0
     try clear hfz17_1
     try clear hfz17_2
     try clear hfz17_3
     try clear hfz18_0
     try clear hfz18_1
     try clear hfz18_2
     try clear hfz18_3
     try clear hfz20_0
     try clear hfz20_1
     try clear hfz20_2
     try clear hfz20_3
     try clear hfz5_0
     try clear hfz5_1
     try clear hfz5_2
     try clear hfz5_3
     try clear hfz7_0
     try clear hfz7_1
     try clear hfz7_2
     try clear hfz7_3
     try clear p2
     try clear p6
     obtain ⟨x53_2, rfl, HA, HK2, BK103, HB⟩ := hrel
     cases gk with
     | zero => exact absurd HA.out (by simp [tree_typed.l0])
     | succ k2 =>
      have H := HA.out
      clear HA
      simp only [tree_typed.l0] at H
      by_cases c21 : x53_2 < (a0_3.size : Int)
      ·rw [if_pos c21] at H
       have c21b0 : decide (x53_2 < (a0_3.size : Int)) = true := decide_eq_true c21
       clear c21
       by_cases c22 : 0 ≤ x53_2
       ·rw [if_pos c22] at H
        have c22b0 : decide (0 ≤ x53_2) = true := decide_eq_true c22
        clear c22
        by_cases c23 : x53_2 < (a0_3.size : Int)
        ·rw [if_pos c23] at H
         have c23b0 : decide (x53_2 < (a0_3.size : Int)) = true := decide_eq_true c23
         clear c23
         by_cases c25 : (bt a0_3 x53_2) = 32
         ·rw [if_pos c25] at H
          have c25b0 : ((bt a0_3 x53_2) == 32) = true := beq_iff_eq.mpr c25
          have c25b1 : ((bt a0_3 x53_2) != 32) = false := bne_eq_false_iff_eq.mpr c25
          clear c25
          have H' := Aside0.mk H
          clear H
          have hcz26_0 : wr.cell? ⟨gb103, 0, none⟩ = some (.int .i64 a0_0) := (blk_cell BK103.out 0).trans rfl
          have hcz26_1 : wr.cell? ⟨gb103, 1, none⟩ = some (.string a0_1) := (blk_cell BK103.out 1).trans rfl
          have hcz26_2 : wr.cell? ⟨gb103, 2, none⟩ = some (.int .i64 a0_2) := (blk_cell BK103.out 2).trans rfl
          have hcz26_3 : wr.cell? ⟨gb103, 3, none⟩ = some (.string a0_3) := (blk_cell BK103.out 3).trans rfl
          have hfz26_0 := blk_frozen BK103.out 0
          have hfz26_1 := blk_frozen BK103.out 1
          have hfz26_2 := blk_frozen BK103.out 2
          have hfz26_3 := blk_frozen BK103.out 3
          have p24 : 0 ≤ (x53_2 : Int) := of_decide_eq_true (by first | (with_reducible assumption) | assumption)
          have q24 : x53_2 < (a0_3.size : Int) := of_decide_eq_true (by first | (with_reducible assumption) | assumption)
          have hx24 := bt_at a0_3 x53_2
          replace p24 := eq_true p24
          replace q24 := eq_true q24
          go_wp2
          go_roundg k2
          case measure => have := HJ1.out; have := HK2.out; omega
          case rel => exact ⟨(wrap64 (x53_2 + 1)), (by first | rfl | (simp; done) | (simp [*]; done)), H', ⟨by have := HJ1.out; have := HK2.out; omega⟩, ⟨pxq BK103⟩, ⟨pxb HB⟩⟩
         ·rw [if_neg c25] at H
          have c25b0 : ((bt a0_3 x53_2) == 32) = false := beq_eq_false_iff_ne.mpr c25
          have c25b1 : ((bt a0_3 x53_2) != 32) = true := bne_iff_ne.mpr c25
          have HC27 := Aside0.mk H
          clear H
          have hcz28_0 : wr.cell? ⟨gb103, 0, none⟩ = some (.int .i64 a0_0) := (blk_cell BK103.out 0).trans rfl
          have hcz28_1 : wr.cell? ⟨gb103, 1, none⟩ = some (.string a0_1) := (blk_cell BK103.out 1).trans rfl
          have hcz28_2 : wr.cell? ⟨gb103, 2, none⟩ = some (.int .i64 a0_2) := (blk_cell BK103.out 2).trans rfl
          have hcz28_3 : wr.cell? ⟨gb103, 3, none⟩ = some (.string a0_3) := (blk_cell BK103.out 3).trans rfl
          have hfz28_0 := blk_frozen BK103.out 0
          have hfz28_1 := blk_frozen BK103.out 1
          have hfz28_2 := blk_frozen BK103.out 2
          have hfz28_3 := blk_frozen BK103.out 3
          have p24 : 0 ≤ (x53_2 : Int) := of_decide_eq_true (by first | (with_reducible assumption) | assumption)
          have q24 : x53_2 < (a0_3.size : Int) := of_decide_eq_true (by first | (with_reducible assumption) | assumption)
          have hx24 := bt_at a0_3 x53_2
          replace p24 := eq_true p24
          replace q24 := eq_true q24
          go_upto_if 62 with (fail)
          go_cut [62] (fun v62 wc => ∃ (kq : Nat) (x62_26 : Bool), v62 = .bool x62_26 ∧ Aside0 (tree_typed.j2 kq x53_2 (a0_3.size : Int) x53_2 x62_26 a0_0 a0_1 a0_2 a0_3 = some r) ∧ Aside0 (kq ≤ k2) ∧ Aside0 (wc.heap[gb103]? = some (.cells #[.int .i64 a0_0, .string a0_1, .int .i64 a0_2, .string a0_3] 23 (0, 0))) ∧ Aside0 (Below w.heap.size w wc))
          case first =>
           have H := HC27.out
           clear HC27
           by_cases c29 : (bt a0_3 x53_2) = 63
           ·rw [if_pos c29] at H
            have c29b0 : ((bt a0_3 x53_2) == 63) = true := beq_iff_eq.mpr c29
            have c29b1 : ((bt a0_3 x53_2) != 63) = false := bne_eq_false_iff_eq.mpr c29
            clear c29
            (first | rw [c29b0] | (simp only [i64_w, i32_w]; rw [c29b0]) | skip)
            have H' := Aside0.mk H
            clear H
            go_wp2
            go_meet
            case rel => exact ⟨_, (((bt a0_3 x53_2) == 63)), (by first | rfl | (simp; done) | (simp [*]; done)), H', ⟨by have := HJ1.out; have := HK2.out; first | omega | exact Nat.le_refl _⟩, ⟨pxq BK103⟩, ⟨pxb HB⟩⟩
           ·rw [if_neg c29] at H
            have c29b0 : ((bt a0_3 x53_2) == 63) = false := beq_eq_false_iff_ne.mpr c29
            have c29b1 : ((bt a0_3 x53_2) != 63) = true := bne_iff_ne.mpr c29
            (first | rw [c29b0] | (simp only [i64_w, i32_w]; rw [c29b0]) | skip)
            have H' := Aside0.mk H
            clear H
            go_wp2
            go_meet
            case rel => exact ⟨_, (((bt a0_3 x53_2) == 111)), (by first | rfl | (simp; done) | (simp [*]; done)), H', ⟨by have := HJ1.out; have := HK2.out; first | omega | exact Nat.le_refl _⟩, ⟨pxq BK103⟩, ⟨pxb HB⟩⟩
          case rest =>
           clear HC27
           try clear c1
           try clear c2
           try clear p2
           try clear q2
           try clear hx2
           try clear c4
           try clear c4b0
           try clear c6
           try clear c6b0
           try clear p6
           try clear c8
           try clear c8b0
           try clear c8b1
           try clear c9
           try clear c9b0
           try clear c11
           try clear c11b0
           try clear c13
           try clear c13b0
           try clear c13b1
           try clear c13b2
           try clear c15
           try clear c15b0
           try clear c15b1
           try clear c19
           try clear c21
           try clear c21b0
           try clear c22
           try clear c22b0
           try clear c23
           try clear c23b0
           try clear p24
           try clear q24
           try clear hx24
           try clear c25
           try clear c25b0
           try clear c25b1
           try clear c29
           try clear c29b0
           try clear c29b1
           try clear hcz10_0
           try clear hcz10_1
           try clear hcz10_2
           try clear hcz10_3
           try clear hcz12_0
           try clear hcz12_1
           try clear hcz12_2
           try clear hcz12_3
           try clear hcz14_0
           try clear hcz14_1
           try clear hcz14_2
           try clear hcz14_3
           try clear hcz16_0
           try clear hcz16_1
           try clear hcz16_2
           try clear hcz16_3
           try clear hcz17_0
           try clear hcz17_1
           try clear hcz17_2
           try clear hcz17_3
           try clear hcz18_0
           try clear hcz18_1
           try clear hcz18_2
           try clear hcz18_3
           try clear hcz20_0
           try clear hcz20_1
           try clear hcz20_2
           try clear hcz20_3
           try clear hcz26_0
           try clear hcz26_1
           try clear hcz26_2
           try clear hcz26_3
           try clear hcz28_0
           try clear hcz28_1
           try clear hcz28_2
           try clear hcz28_3
           try clear hcz5_0
           try clear hcz5_1
           try clear hcz5_2
           try clear hcz5_3
           try clear hcz7_0
           try clear hcz7_1
           try clear hcz7_2
           try clear hcz7_3
           try clear hfz10_0
           try clear hfz10_1
           try clear hfz10_2
           try clear hfz10_3
           try clear hfz12_0
           try clear hfz12_1
           try clear hfz12_2
           try clear hfz12_3
           try clear hfz14_0
           try clear hfz14_1
           try clear hfz14_2
           try clear hfz14_3
           try clear hfz16_0
           try clear hfz16_1
           try clear hfz16_2
           try clear hfz16_3
           try clear hfz17_0
           try clear hfz17_1
           try clear hfz17_2
           try clear hfz17_3
           try clear hfz18_0
           try clear hfz18_1
           try clear hfz18_2
           try clear hfz18_3
           try clear hfz20_0
           try clear hfz20_1
           try clear hfz20_2
           try clear hfz20_3
           try clear hfz26_0
           try clear hfz26_1
           try clear hfz26_2
           try clear hfz26_3
           try clear hfz28_0
           try clear hfz28_1
           try clear hfz28_2
           try clear hfz28_3
           try clear hfz5_0
           try clear hfz5_1
           try clear hfz5_2
           try clear hfz5_3
           try clear hfz7_0
           try clear hfz7_1
           try clear hfz7_2
           try clear hfz7_3
           try clear p2
           try clear p24
           try clear p6
           try clear q24
           obtain ⟨kq, x62_26, rfl, HA, HJ26, BK103, HB⟩ := hcut
           cases kq with
           | zero => exact absurd HA.out (by simp [tree_typed.j2])
           | succ kj26 =>
            have H := HA.out
            clear HA
            simp only [tree_typed.j2] at H
            by_cases c30 : x62_26 = true
            ·subst c30
             have H1 : (if x53_2 = 0 then (if a0_0 = 5 then (if 0 ≤ x53_2 then (if x53_2 < (a0_3.size : Int) then (if (bt a0_3 x53_2) = 111 then (if x53_2 < a0_2 then (some false) else (tree_typed.l0 kj26 (a0_3.size : Int) (wrap64 (x53_2 + 1)) a0_0 a0_1 a0_2 a0_3)) else (tree_typed.l0 kj26 (a0_3.size : Int) (wrap64 (x53_2 + 1)) a0_0 a0_1 a0_2 a0_3)) else (none)) else (none)) else (some false)) else (if 0 ≤ x53_2 then (if x53_2 < (a0_3.size : Int) then (if (bt a0_3 x53_2) = 111 then (if x53_2 < a0_2 then (some false) else (tree_typed.l0 kj26 (a0_3.size : Int) (wrap64 (x53_2 + 1)) a0_0 a0_1 a0_2 a0_3)) else (tree_typed.l0 kj26 (a0_3.size : Int) (wrap64 (x53_2 + 1)) a0_0 a0_1 a0_2 a0_3)) else (none)) else (none))) = some r := by rw [if_pos rfl] at H; exact H
             clear H
             have H := H1
             clear H1
             by_cases c31 : x53_2 = 0
             ·rw [if_pos c31] at H
              have c31b0 : (x53_2 == 0) = true := beq_iff_eq.mpr c31
              have c31b1 : (x53_2 != 0) = false := bne_eq_false_iff_eq.mpr c31
              clear c31
              by_cases c32 : a0_0 = 5
              ·rw [if_pos c32] at H
               have c32b0 : (a0_0 == 5) = true := beq_iff_eq.mpr c32
               have c32b1 : (a0_0 != 5) = false := bne_eq_false_iff_eq.mpr c32
               clear c32
               by_cases c33 : 0 ≤ x53_2
               ·rw [if_pos c33] at H
                have c33b0 : decide (0 ≤ x53_2) = true := decide_eq_true c33
                clear c33
                by_cases c34 : x53_2 < (a0_3.size : Int)
                ·rw [if_pos c34] at H
                 have c34b0 : decide (x53_2 < (a0_3.size : Int)) = true := decide_eq_true c34
                 clear c34
                 by_cases c36 : (bt a0_3 x53_2) = 111
                 ·rw [if_pos c36] at H
                  have c36b0 : ((bt a0_3 x53_2) == 111) = true := beq_iff_eq.mpr c36
                  have c36b1 : ((bt a0_3 x53_2) != 111) = false := bne_eq_false_iff_eq.mpr c36
                  clear c36
                  by_cases c37 : x53_2 < a0_2
                  ·rw [if_pos c37] at H
                   have c37b0 : decide (x53_2 < a0_2) = true := decide_eq_true c37
                   clear c37
                   obtain rfl := Option.some.inj H
                   have hcz38_0 : wc.cell? ⟨gb103, 0, none⟩ = some (.int .i64 a0_0) := (blk_cell BK103.out 0).trans rfl
                   have hcz38_1 : wc.cell? ⟨gb103, 1, none⟩ = some (.string a0_1) := (blk_cell BK103.out 1).trans rfl
                   have hcz38_2 : wc.cell? ⟨gb103, 2, none⟩ = some (.int .i64 a0_2) := (blk_cell BK103.out 2).trans rfl
                   have hcz38_3 : wc.cell? ⟨gb103, 3, none⟩ = some (.string a0_3) := (blk_cell BK103.out 3).trans rfl
                   have hfz38_0 := blk_frozen BK103.out 0
                   have hfz38_1 := blk_frozen BK103.out 1
                   have hfz38_2 := blk_frozen BK103.out 2
                   have hfz38_3 := blk_frozen BK103.out 3
                   have p35 : 0 ≤ (x53_2 : Int) := of_decide_eq_true (by first | (with_reducible assumption) | assumption)
                   have q35 : x53_2 < (a0_3.size : Int) := of_decide_eq_true (by first | (with_reducible assumption) | assumption)
                   have hx35 := bt_at a0_3 x53_2
                   replace p35 := eq_true p35
                   replace q35 := eq_true q35
                   go_wp2
                   go_ret
                   exact ⟨by first | rfl | (simp [errW_none, errW_some] <;> rfl) | (simp [*, errW_none, errW_some] <;> rfl) | (simp [*, pxbeq, pxbne, errW_none, errW_some]; done), pxb HB⟩
                  ·rw [if_neg c37] at H
                   have c37b0 : decide (x53_2 < a0_2) = false := decide_eq_false c37
                   clear c37
                   have H' := Aside0.mk H
                   clear H
                   have hcz39_0 : wc.cell? ⟨gb103, 0, none⟩ = some (.int .i64 a0_0) := (blk_cell BK103.out 0).trans rfl
                   have hcz39_1 : wc.cell? ⟨gb103, 1, none⟩ = some (.string a0_1) := (blk_cell BK103.out 1).trans rfl
                   have hcz39_2 : wc.cell? ⟨gb103, 2, none⟩ = some (.int .i64 a0_2) := (blk_cell BK103.out 2).trans rfl
                   have hcz39_3 : wc.cell? ⟨gb103, 3, none⟩ = some (.string a0_3) := (blk_cell BK103.out 3).trans rfl
                   have hfz39_0 := blk_frozen BK103.out 0
                   have hfz39_1 := blk_frozen BK103.out 1
                   have hfz39_2 := blk_frozen BK103.out 2
                   have hfz39_3 := blk_frozen BK103.out 3
                   have p35 : 0 ≤ (x53_2 : Int) := of_decide_eq_true (by first | (with_reducible assumption) | assumption)
                   have q35 : x53_2 < (a0_3.size : Int) := of_decide_eq_true (by first | (with_reducible assumption) | assumption)
                   have hx35 := bt_at a0_3 x53_2
                   replace p35 := eq_true p35
                   replace q35 := eq_true q35
                   go_wp2
                   go_roundg kj26
                   case measure => have := HJ1.out; have := HK2.out; have := HJ26.out; omega
                   case rel => exact ⟨(wrap64 (x53_2 + 1)), (by first | rfl | (simp; done) | (simp [*]; done)), H', ⟨by have := HJ1.out; have := HK2.out; have := HJ26.out; omega⟩, ⟨pxq BK103⟩, ⟨pxb HB⟩⟩
                 ·rw [if_neg c36] at H
                  have c36b0 : ((bt a0_3 x53_2) == 111) = false := beq_eq_false_iff_ne.mpr c36
                  have c36b1 : ((bt a0_3 x53_2) != 111) = true := bne_iff_ne.mpr c36
                  have H' := Aside0.mk H
                  clear H
                  have hcz40_0 : wc.cell? ⟨gb103, 0, none⟩ = some (.int .i64 a0_0) := (blk_cell BK103.out 0).trans rfl
                  have hcz40_1 : wc.cell? ⟨gb103, 1, none⟩ = some (.string a0_1) := (blk_cell BK103.out 1).trans rfl
                  have hcz40_2 : wc.cell? ⟨gb103, 2, none⟩ = some (.int .i64 a0_2) := (blk_cell BK103.out 2).trans rfl
                  have hcz40_3 : wc.cell? ⟨gb103, 3, none⟩ = some (.string a0_3) := (blk_cell BK103.out 3).trans rfl
                  have hfz40_0 := blk_frozen BK103.out 0
                  have hfz40_1 := blk_frozen BK103.out 1
                  have hfz40_2 := blk_frozen BK103.out 2
                  have hfz40_3 := blk_frozen BK103.out 3
                  have p35 : 0 ≤ (x53_2 : Int) := of_decide_eq_true (by first | (with_reducible assumption) | assumption)
                  have q35 : x53_2 < (a0_3.size : Int) := of_decide_eq_true (by first | (with_reducible assumption) | assumption)
                  have hx35 := bt_at a0_3 x53_2
                  replace p35 := eq_true p35
                  replace q35 := eq_true q35
                  go_wp2
                  go_roundg kj26
                  case measure => have := HJ1.out; have := HK2.out; have := HJ26.out; omega
                  case rel => exact ⟨(wrap64 (x53_2 + 1)), (by first | rfl | (simp; done) | (simp [*]; done)), H', ⟨by have := HJ1.out; have := HK2.out; have := HJ26.out; omega⟩, ⟨pxq BK103⟩, ⟨pxb HB⟩⟩
                ·rw [if_neg c34] at H
                 exact absurd H (by simp)
               ·rw [if_neg c33] at H
                exact absurd H (by simp)
              ·rw [if_neg c32] at H
               have c32b0 : (a0_0 == 5) = false := beq_eq_false_iff_ne.mpr c32
               have c32b1 : (a0_0 != 5) = true := bne_iff_ne.mpr c32
               obtain rfl := Option.some.inj H
               have hcz41_0 : wc.cell? ⟨gb103, 0, none⟩ = some (.int .i64 a0_0) := (blk_cell BK103.out 0).trans rfl
               have hcz41_1 : wc.cell? ⟨gb103, 1, none⟩ = some (.string a0_1) := (blk_cell BK103.out 1).trans rfl
               have hcz41_2 : wc.cell? ⟨gb103, 2, none⟩ = some (.int .i64 a0_2) := (blk_cell BK103.out 2).trans rfl
               have hcz41_3 : wc.cell? ⟨gb103, 3, none⟩ = some (.string a0_3) := (blk_cell BK103.out 3).trans rfl
               have hfz41_0 := blk_frozen BK103.out 0
               have hfz41_1 := blk_frozen BK103.out 1
               have hfz41_2 := blk_frozen BK103.out 2
               have hfz41_3 := blk_frozen BK103.out 3
               go_wp2
               go_ret
               exact ⟨by first | rfl | (simp [errW_none, errW_some] <;> rfl) | (simp [*, errW_none, errW_some] <;> rfl) | (simp [*, pxbeq, pxbne, errW_none, errW_some]; done), pxb HB⟩
             ·rw [if_neg c31] at H
              have c31b0 : (x53_2 == 0) = false := beq_eq_false_iff_ne.mpr c31
              have c31b1 : (x53_2 != 0) = true := bne_iff_ne.mpr c31
              by_cases c42 : 0 ≤ x53_2
              ·rw [if_pos c42] at H
               have c42b0 : decide (0 ≤ x53_2) = true := decide_eq_true c42
               clear c42
               by_cases c43 : x53_2 < (a0_3.size : Int)
               ·rw [if_pos c43] at H
                have c43b0 : decide (x53_2 < (a0_3.size : Int)) = true := decide_eq_true c43
                clear c43
                by_cases c45 : (bt a0_3 x53_2) = 111
                ·rw [if_pos c45] at H
                 have c45b0 : ((bt a0_3 x53_2) == 111) = true := beq_iff_eq.mpr c45
                 have c45b1 : ((bt a0_3 x53_2) != 111) = false := bne_eq_false_iff_eq.mpr c45
                 clear c45
                 by_cases c46 : x53_2 < a0_2
                 ·rw [if_pos c46] at H
                  have c46b0 : decide (x53_2 < a0_2) = true := decide_eq_true c46
                  clear c46
                  obtain rfl := Option.some.inj H
                  have hcz47_0 : wc.cell? ⟨gb103, 0, none⟩ = some (.int .i64 a0_0) := (blk_cell BK103.out 0).trans rfl
                  have hcz47_1 : wc.cell? ⟨gb103, 1, none⟩ = some (.string a0_1) := (blk_cell BK103.out 1).trans rfl
                  have hcz47_2 : wc.cell? ⟨gb103, 2, none⟩ = some (.int .i64 a0_2) := (blk_cell BK103.out 2).trans rfl
                  have hcz47_3 : wc.cell? ⟨gb103, 3, none⟩ = some (.string a0_3) := (blk_cell BK103.out 3).trans rfl
                  have hfz47_0 := blk_frozen BK103.out 0
                  have hfz47_1 := blk_frozen BK103.out 1
                  have hfz47_2 := blk_frozen BK103.out 2
                  have hfz47_3 := blk_frozen BK103.out 3
                  have p44 : 0 ≤ (x53_2 : Int) := of_decide_eq_true (by first | (with_reducible assumption) | assumption)
                  have q44 : x53_2 < (a0_3.size : Int) := of_decide_eq_true (by first | (with_reducible assumption) | assumption)
                  have hx44 := bt_at a0_3 x53_2
                  replace p44 := eq_true p44
                  replace q44 := eq_true q44
                  go_wp2
                  go_ret
                  exact ⟨by first | rfl | (simp [errW_none, errW_some] <;> rfl) | (simp [*, errW_none, errW_some] <;> rfl) | (simp [*, pxbeq, pxbne, errW_none, errW_some]; done), pxb HB⟩
                 ·rw [if_neg c46] at H
                  have c46b0 : decide (x53_2 < a0_2) = false := decide_eq_false c46
                  clear c46
                  have H' := Aside0.mk H
                  clear H
                  have hcz48_0 : wc.cell? ⟨gb103, 0, none⟩ = some (.int .i64 a0_0) := (blk_cell BK103.out 0).trans rfl
                  have hcz48_1 : wc.cell? ⟨gb103, 1, none⟩ = some (.string a0_1) := (blk_cell BK103.out 1).trans rfl
                  have hcz48_2 : wc.cell? ⟨gb103, 2, none⟩ = some (.int .i64 a0_2) := (blk_cell BK103.out 2).trans rfl
                  have hcz48_3 : wc.cell? ⟨gb103, 3, none⟩ = some (.string a0_3) := (blk_cell BK103.out 3).trans rfl
                  have hfz48_0 := blk_frozen BK103.out 0
                  have hfz48_1 := blk_frozen BK103.out 1
                  have hfz48_2 := blk_frozen BK103.out 2
                  have hfz48_3 := blk_frozen BK103.out 3
                  have p44 : 0 ≤ (x53_2 : Int) := of_decide_eq_true (by first | (with_reducible assumption) | assumption)
                  have q44 : x53_2 < (a0_3.size : Int) := of_decide_eq_true (by first | (with_reducible assumption) | assumption)
                  have hx44 := bt_at a0_3 x53_2
                  replace p44 := eq_true p44
                  replace q44 := eq_true q44
                  go_wp2
                  go_roundg kj26
                  case measure => have := HJ1.out; have := HK2.out; have := HJ26.out; omega
                  case rel => exact ⟨(wrap64 (x53_2 + 1)), (by first | rfl | (simp; done) | (simp [*]; done)), H', ⟨by have := HJ1.out; have := HK2.out; have := HJ26.out; omega⟩, ⟨pxq BK103⟩, ⟨pxb HB⟩⟩
                ·rw [if_neg c45] at H
                 have c45b0 : ((bt a0_3 x53_2) == 111) = false := beq_eq_false_iff_ne.mpr c45
                 have c45b1 : ((bt a0_3 x53_2) != 111) = true := bne_iff_ne.mpr c45
                 have H' := Aside0.mk H
                 clear H
                 have hcz49_0 : wc.cell? ⟨gb103, 0, none⟩ = some (.int .i64 a0_0) := (blk_cell BK103.out 0).trans rfl
                 have hcz49_1 : wc.cell? ⟨gb103, 1, none⟩ = some (.string a0_1) := (blk_cell BK103.out 1).trans rfl
                 have hcz49_2 : wc.cell? ⟨gb103, 2, none⟩ = some (.int .i64 a0_2) := (blk_cell BK103.out 2).trans rfl
                 have hcz49_3 : wc.cell? ⟨gb103, 3, none⟩ = some (.string a0_3) := (blk_cell BK103.out 3).trans rfl
                 have hfz49_0 := blk_frozen BK103.out 0
                 have hfz49_1 := blk_frozen BK103.out 1
                 have hfz49_2 := blk_frozen BK103.out 2
                 have hfz49_3 := blk_frozen BK103.out 3
                 have p44 : 0 ≤ (x53_2 : Int) := of_decide_eq_true (by first | (with_reducible assumption) | assumption)
                 have q44 : x53_2 < (a0_3.size : Int) := of_decide_eq_true (by first | (with_reducible assumption) | assumption)
                 have hx44 := bt_at a0_3 x53_2
                 replace p44 := eq_true p44
                 replace q44 := eq_true q44
                 go_wp2
                 go_roundg kj26
                 case measure => have := HJ1.out; have := HK2.out; have := HJ26.out; omega
                 case rel => exact ⟨(wrap64 (x53_2 + 1)), (by first | rfl | (simp; done) | (simp [*]; done)), H', ⟨by have := HJ1.out; have := HK2.out; have := HJ26.out; omega⟩, ⟨pxq BK103⟩, ⟨pxb HB⟩⟩
               ·rw [if_neg c43] at H
                exact absurd H (by simp)
              ·rw [if_neg c42] at H
               exact absurd H (by simp)
            ·replace c30 := Bool.eq_false_iff.mpr c30
             subst c30
             have H1 : (some false) = some r := by rw [if_neg (show ¬ (false = true) by decide)] at H; exact H
             clear H
             have H := H1
             clear H1
             obtain rfl := Option.some.inj H
             go_wp2
             go_ret
             exact ⟨by first | rfl | (simp [errW_none, errW_some] <;> rfl) | (simp [*, errW_none, errW_some] <;> rfl) | (simp [*, pxbeq, pxbne, errW_none, errW_some]; done), pxb HB⟩
        ·rw [if_neg c23] at H
         exact absurd H (by simp)
       ·rw [if_neg c22] at H
        exact absurd H (by simp)
      ·rw [if_neg c21] at H
       have c21b0 : decide (x53_2 < (a0_3.size : Int)) = false := decide_eq_false c21
       clear c21
       obtain rfl := Option.some.inj H
       go_wp2
       go_ret
       exact ⟨by first | rfl | (simp [errW_none, errW_some] <;> rfl) | (simp [*, errW_none, errW_some] <;> rfl) | (simp [*, pxbeq, pxbne, errW_none, errW_some]; done), pxb HB⟩

end Go.Proofs.Ytljchkghnmnpgaa.X
