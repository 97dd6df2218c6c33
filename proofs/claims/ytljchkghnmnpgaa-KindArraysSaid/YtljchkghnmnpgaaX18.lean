/- What the program's functions answer, as Lean functions, and that each call does just that; no condition. Written by a program (px.py) out of the translation. -/
import Derived.Test.YtljchkghnmnpgaaX0
import Derived.Test.YtljchkghnmnpgaaShort2
namespace Go.Proofs.Ytljchkghnmnpgaa.X
open Go.RowKit Go.Proofs.YtljchkghnmnpgaaW.PrintWords Go.Proofs.YtljchkghnmnpgaaW.PrintLast Go.Proofs.YtljchkghnmnpgaaW.PrintMore
attribute [local go_sem] max2_int min2_int max_two min_two max_three min_three max_four min_four   -- for this text's walks alone
set_option linter.unusedVariables false
set_option linter.unusedSimpArgs false

/-! ### caulkerref07_Right: function 18 -/
mutual
def caulkerref07_Right.j0 : Nat → Bool → Int → ByteArray → Int → ByteArray → Option (Bool)
 | 0, _, _, _, _, _ => none
 | k + 1, x31, x231000, x231001, x231002, x231003 => if x31 = true then (some false) else (if x231000 = 5 then (if x231001.toList = ([] : List UInt8) then (caulkerref07_Right.j1 k true x231000 x231001 x231002 x231003) else (if x231000 = 6 then (caulkerref07_Right.j1 k (decide (x231002 > 0)) x231000 x231001 x231002 x231003) else (caulkerref07_Right.j1 k false x231000 x231001 x231002 x231003))) else (if x231001.toList = ([] : List UInt8) then (if x231000 = 6 then (caulkerref07_Right.j1 k (decide (x231002 > 0)) x231000 x231001 x231002 x231003) else (caulkerref07_Right.j1 k false x231000 x231001 x231002 x231003)) else (caulkerref07_Right.j1 k true x231000 x231001 x231002 x231003)))
def caulkerref07_Right.j1 : Nat → Bool → Int → ByteArray → Int → ByteArray → Option (Bool)
 | 0, _, _, _, _, _ => none
 | k + 1, x59, x231000, x231001, x231002, x231003 => if x59 = true then (some false) else (caulkerref07_Right.l0 k 0 x231000 x231001 x231002 x231003)
def caulkerref07_Right.l0 : Nat → Int → Int → ByteArray → Int → ByteArray → Option (Bool)
 | 0, _, _, _, _, _ => none
 | k + 1, x3, x231000, x231001, x231002, x231003 => if x3 < (x231003.size : Int) then (if 0 ≤ x3 then (if (bt x231003 x3) = 32 then (caulkerref07_Right.j3 k x3 (bt x231003 x3) false x231000 x231001 x231002 x231003) else (if (bt x231003 x3) = 63 then (caulkerref07_Right.j3 k x3 (bt x231003 x3) false x231000 x231001 x231002 x231003) else (caulkerref07_Right.j3 k x3 (bt x231003 x3) ((bt x231003 x3) != 111) x231000 x231001 x231002 x231003))) else (none)) else (some true)
def caulkerref07_Right.j3 : Nat → Int → Int → Bool → Int → ByteArray → Int → ByteArray → Option (Bool)
 | 0, _, _, _, _, _, _, _ => none
 | k + 1, x3, x4, x80, x231000, x231001, x231002, x231003 => if x80 = true then (some false) else (if x4 = 32 then (if x4 = 111 then (if x3 < x231002 then (some false) else (caulkerref07_Right.l0 k (wrap64 (x3 + 1)) x231000 x231001 x231002 x231003)) else (caulkerref07_Right.l0 k (wrap64 (x3 + 1)) x231000 x231001 x231002 x231003)) else (if x3 = 0 then (if x231000 = 5 then (if x4 = 111 then (if x3 < x231002 then (some false) else (caulkerref07_Right.l0 k (wrap64 (x3 + 1)) x231000 x231001 x231002 x231003)) else (caulkerref07_Right.l0 k (wrap64 (x3 + 1)) x231000 x231001 x231002 x231003)) else (some false)) else (if x4 = 111 then (if x3 < x231002 then (some false) else (caulkerref07_Right.l0 k (wrap64 (x3 + 1)) x231000 x231001 x231002 x231003)) else (caulkerref07_Right.l0 k (wrap64 (x3 + 1)) x231000 x231001 x231002 x231003))))
end
def caulkerref07_Right.f (k : Nat) (a0_0 : Int) (a0_1 : ByteArray) (a0_2 : Int) (a0_3 : ByteArray) : Option (Bool) := if a0_2 < 0 then (caulkerref07_Right.j0 k true a0_0 a0_1 a0_2 a0_3) else (if a0_2 > 4 then (caulkerref07_Right.j0 k true a0_0 a0_1 a0_2 a0_3) else (if (wrap64 ((a0_3.size : Int) - 1)) = a0_2 then (if a0_0 < 1 then (caulkerref07_Right.j0 k true a0_0 a0_1 a0_2 a0_3) else (caulkerref07_Right.j0 k (decide (a0_0 > 6)) a0_0 a0_1 a0_2 a0_3)) else (caulkerref07_Right.j0 k true a0_0 a0_1 a0_2 a0_3)))
theorem caulkerref07_Right.mono_l : ∀ k, (∀ y0 y1 y2 y3 y4, LeO (caulkerref07_Right.j0 k y0 y1 y2 y3 y4) (caulkerref07_Right.j0 (k + 1) y0 y1 y2 y3 y4)) ∧ (∀ y0 y1 y2 y3 y4, LeO (caulkerref07_Right.j1 k y0 y1 y2 y3 y4) (caulkerref07_Right.j1 (k + 1) y0 y1 y2 y3 y4)) ∧ (∀ y0 y1 y2 y3 y4, LeO (caulkerref07_Right.l0 k y0 y1 y2 y3 y4) (caulkerref07_Right.l0 (k + 1) y0 y1 y2 y3 y4)) ∧ (∀ y0 y1 y2 y3 y4 y5 y6, LeO (caulkerref07_Right.j3 k y0 y1 y2 y3 y4 y5 y6) (caulkerref07_Right.j3 (k + 1) y0 y1 y2 y3 y4 y5 y6))
 | 0 => ⟨fun _ _ _ _ _ r h => by simp [caulkerref07_Right.j0] at h, fun _ _ _ _ _ r h => by simp [caulkerref07_Right.j1] at h, fun _ _ _ _ _ r h => by simp [caulkerref07_Right.l0] at h, fun _ _ _ _ _ _ _ r h => by simp [caulkerref07_Right.j3] at h⟩
 | k + 1 => by
  obtain ⟨ih0, ih1, ih2, ih3⟩ := caulkerref07_Right.mono_l k
  refine ⟨?_, ?_, ?_, ?_⟩
  ·intro y0 y1 y2 y3 y4
   unfold caulkerref07_Right.j0
   repeat' first
   | (with_reducible exact ih0 _ _ _ _ _)
   | (with_reducible exact ih1 _ _ _ _ _)
   | (with_reducible exact ih2 _ _ _ _ _)
   | (with_reducible exact ih3 _ _ _ _ _ _ _)
   | (with_reducible exact LeO.refl _)
   | (with_reducible exact LeO.none _)
   | (with_reducible refine LeO.ite ?_ ?_)
   | (with_reducible refine LeO.bind ?_ (fun _ => ?_))
   | exact ih0 _ _ _ _ _
   | exact ih1 _ _ _ _ _
   | exact ih2 _ _ _ _ _
   | exact ih3 _ _ _ _ _ _ _
   | exact LeO.none _
   | refine LeO.ite ?_ ?_
   | refine LeO.bind ?_ (fun _ => ?_)
  ·intro y0 y1 y2 y3 y4
   unfold caulkerref07_Right.j1
   repeat' first
   | (with_reducible exact ih0 _ _ _ _ _)
   | (with_reducible exact ih1 _ _ _ _ _)
   | (with_reducible exact ih2 _ _ _ _ _)
   | (with_reducible exact ih3 _ _ _ _ _ _ _)
   | (with_reducible exact LeO.refl _)
   | (with_reducible exact LeO.none _)
   | (with_reducible refine LeO.ite ?_ ?_)
   | (with_reducible refine LeO.bind ?_ (fun _ => ?_))
   | exact ih0 _ _ _ _ _
   | exact ih1 _ _ _ _ _
   | exact ih2 _ _ _ _ _
   | exact ih3 _ _ _ _ _ _ _
   | exact LeO.none _
   | refine LeO.ite ?_ ?_
   | refine LeO.bind ?_ (fun _ => ?_)
  ·intro y0 y1 y2 y3 y4
   unfold caulkerref07_Right.l0
   repeat' first
   | (with_reducible exact ih0 _ _ _ _ _)
   | (with_reducible exact ih1 _ _ _ _ _)
   | (with_reducible exact ih2 _ _ _ _ _)
   | (with_reducible exact ih3 _ _ _ _ _ _ _)
   | (with_reducible exact LeO.refl _)
   | (with_reducible exact LeO.none _)
   | (with_reducible refine LeO.ite ?_ ?_)
   | (with_reducible refine LeO.bind ?_ (fun _ => ?_))
   | exact ih0 _ _ _ _ _
   | exact ih1 _ _ _ _ _
   | exact ih2 _ _ _ _ _
   | exact ih3 _ _ _ _ _ _ _
   | exact LeO.none _
   | refine LeO.ite ?_ ?_
   | refine LeO.bind ?_ (fun _ => ?_)
  ·intro y0 y1 y2 y3 y4 y5 y6
   unfold caulkerref07_Right.j3
   repeat' first
   | (with_reducible exact ih0 _ _ _ _ _)
   | (with_reducible exact ih1 _ _ _ _ _)
   | (with_reducible exact ih2 _ _ _ _ _)
   | (with_reducible exact ih3 _ _ _ _ _ _ _)
   | (with_reducible exact LeO.refl _)
   | (with_reducible exact LeO.none _)
   | (with_reducible refine LeO.ite ?_ ?_)
   | (with_reducible refine LeO.bind ?_ (fun _ => ?_))
   | exact ih0 _ _ _ _ _
   | exact ih1 _ _ _ _ _
   | exact ih2 _ _ _ _ _
   | exact ih3 _ _ _ _ _ _ _
   | exact LeO.none _
   | refine LeO.ite ?_ ?_
   | refine LeO.bind ?_ (fun _ => ?_)
theorem caulkerref07_Right.mono : ∀ a0 a1 a2 a3 k, LeO (caulkerref07_Right.f k a0 a1 a2 a3) (caulkerref07_Right.f (k + 1) a0 a1 a2 a3) := by
 intro a0 a1 a2 a3 k
 obtain ⟨ih0, ih1, ih2, ih3⟩ := caulkerref07_Right.mono_l k
 unfold caulkerref07_Right.f
 repeat' first
   | (with_reducible exact ih0 _ _ _ _ _)
   | (with_reducible exact ih1 _ _ _ _ _)
   | (with_reducible exact ih2 _ _ _ _ _)
   | (with_reducible exact ih3 _ _ _ _ _ _ _)
   | (with_reducible exact LeO.refl _)
   | (with_reducible exact LeO.none _)
   | (with_reducible refine LeO.ite ?_ ?_)
   | (with_reducible refine LeO.bind ?_ (fun _ => ?_))
   | exact ih0 _ _ _ _ _
   | exact ih1 _ _ _ _ _
   | exact ih2 _ _ _ _ _
   | exact ih3 _ _ _ _ _ _ _
   | exact LeO.none _
   | refine LeO.ite ?_ ?_
   | refine LeO.bind ?_ (fun _ => ?_)
set_option maxHeartbeats 8000000 in
set_option maxRecDepth 100000 in
theorem caulkerref07_Right.calls (k : Nat) (a0_0 : Int) (a0_1 : ByteArray) (a0_2 : Int) (a0_3 : ByteArray) (r : Bool) (w : World) (h : caulkerref07_Right.f k a0_0 a0_1 a0_2 a0_3 = some r) :
  Calls Try.prog 18 #[.agg #[.int .i64 a0_0, .string a0_1, .int .i64 a0_2, .string a0_3]] w fun e w' => e = .returned (.bool r) ∧ Below w.heap.size w w' := by
 have hu23 := Try.underlying23
 have HB := Aside0.mk (Below.refl w.heap.size w)
 have H : (if a0_2 < 0 then (caulkerref07_Right.j0 k true a0_0 a0_1 a0_2 a0_3) else (if a0_2 > 4 then (caulkerref07_Right.j0 k true a0_0 a0_1 a0_2 a0_3) else (if (wrap64 ((a0_3.size : Int) - 1)) = a0_2 then (if a0_0 < 1 then (caulkerref07_Right.j0 k true a0_0 a0_1 a0_2 a0_3) else (caulkerref07_Right.j0 k (decide (a0_0 > 6)) a0_0 a0_1 a0_2 a0_3)) else (caulkerref07_Right.j0 k true a0_0 a0_1 a0_2 a0_3)))) = some r := h
 clear h
 have HC2 := Aside0.mk H
 clear H
 go_enter Try.func18, Try.ntmps18
 go_upto_region 1 with (first | ((with_reducible refine gate_dst (N := 1) rfl ?_); refine box_event ?hg (N := 1) ?hd (cs := #[.int .i64 a0_0, .string a0_1, .int .i64 a0_2, .string a0_3]) (t := 23) ?hr ?_; (case hd => rfl); (case hg => rfl); (case hr => first | (go_simp; done) | (go_simp; rfl)); intro gb230 hg w3 hbox hb; have n0_ := pxs HB hb; have n1_ := Aside0.mk (hbox); have n2_ := Aside0.mk ((by rw [hg]; exact (below_size (pxb HB)) : w.heap.size ≤ gb230)); have n3_ := Aside0.mk ((by rw [hg]; exact (below_size (pxb HB)) : w.heap.size ≤ gb230)); clear HB; have HB := n0_; have BK230 := n1_; have GW230 := n2_; have GE230 := n3_; clear n0_ n1_ n2_ n3_; clear hb hbox hg))
 (try simp only [Act.put, List.setIfInBounds_toArray, List.set_cons_zero, List.set_cons_succ])
 go_cut [31] (fun v31 wc => ∃ (kq : Nat) (x31_1 : Bool), v31 = .bool x31_1 ∧ Aside0 (caulkerref07_Right.j0 kq x31_1 a0_0 a0_1 a0_2 a0_3 = some r) ∧ Aside0 (kq ≤ k) ∧ Aside0 (wc.heap[gb230]? = some (.cells #[.int .i64 a0_0, .string a0_1, .int .i64 a0_2, .string a0_3] 23 (0, 0))) ∧ Aside0 (Below w.heap.size w wc))
 case first =>
  have H := HC2.out
  clear HC2
  by_cases c4 : a0_2 < 0
  ·rw [if_pos c4] at H
   have c4b0 : decide (a0_2 < 0) = true := decide_eq_true c4
   clear c4
   (first | rw [c4b0] | (simp only [i64_w, i32_w]; rw [c4b0]) | skip)
   have H' := Aside0.mk H
   clear H
   have hcz5_0 : w3.cell? ⟨gb230, 0, none⟩ = some (.int .i64 a0_0) := (blk_cell BK230.out 0).trans rfl
   have hcz5_1 : w3.cell? ⟨gb230, 1, none⟩ = some (.string a0_1) := (blk_cell BK230.out 1).trans rfl
   have hcz5_2 : w3.cell? ⟨gb230, 2, none⟩ = some (.int .i64 a0_2) := (blk_cell BK230.out 2).trans rfl
   have hcz5_3 : w3.cell? ⟨gb230, 3, none⟩ = some (.string a0_3) := (blk_cell BK230.out 3).trans rfl
   have hfz5_0 := blk_frozen BK230.out 0
   have hfz5_1 := blk_frozen BK230.out 1
   have hfz5_2 := blk_frozen BK230.out 2
   have hfz5_3 := blk_frozen BK230.out 3
   go_wp2
   go_meet
   case rel => exact ⟨_, (true), (by first | rfl | (simp; done) | (simp [*]; done)), H', ⟨by first | omega | exact Nat.le_refl _⟩, ⟨pxq BK230⟩, ⟨pxb HB⟩⟩
  ·rw [if_neg c4] at H
   have c4b0 : decide (a0_2 < 0) = false := decide_eq_false c4
   clear c4
   (first | rw [c4b0] | (simp only [i64_w, i32_w]; rw [c4b0]) | skip)
   by_cases c6 : a0_2 > 4
   ·rw [if_pos c6] at H
    have c6b0 : decide (4 < a0_2) = true := decide_eq_true c6
    clear c6
    have H' := Aside0.mk H
    clear H
    have hcz7_0 : w3.cell? ⟨gb230, 0, none⟩ = some (.int .i64 a0_0) := (blk_cell BK230.out 0).trans rfl
    have hcz7_1 : w3.cell? ⟨gb230, 1, none⟩ = some (.string a0_1) := (blk_cell BK230.out 1).trans rfl
    have hcz7_2 : w3.cell? ⟨gb230, 2, none⟩ = some (.int .i64 a0_2) := (blk_cell BK230.out 2).trans rfl
    have hcz7_3 : w3.cell? ⟨gb230, 3, none⟩ = some (.string a0_3) := (blk_cell BK230.out 3).trans rfl
    have hfz7_0 := blk_frozen BK230.out 0
    have hfz7_1 := blk_frozen BK230.out 1
    have hfz7_2 := blk_frozen BK230.out 2
    have hfz7_3 := blk_frozen BK230.out 3
    go_wp2
    go_meet
    case rel => exact ⟨_, (true), (by first | rfl | (simp; done) | (simp [*]; done)), H', ⟨by first | omega | exact Nat.le_refl _⟩, ⟨pxq BK230⟩, ⟨pxb HB⟩⟩
   ·rw [if_neg c6] at H
    have c6b0 : decide (4 < a0_2) = false := decide_eq_false c6
    clear c6
    by_cases c8 : (wrap64 ((a0_3.size : Int) - 1)) = a0_2
    ·rw [if_pos c8] at H
     have c8b0 : ((wrap64 ((a0_3.size : Int) - 1)) == a0_2) = true := beq_iff_eq.mpr c8
     have c8b1 : ((wrap64 ((a0_3.size : Int) - 1)) != a0_2) = false := bne_eq_false_iff_eq.mpr c8
     clear c8
     by_cases c9 : a0_0 < 1
     ·rw [if_pos c9] at H
      have c9b0 : decide (a0_0 < 1) = true := decide_eq_true c9
      clear c9
      have H' := Aside0.mk H
      clear H
      have hcz10_0 : w3.cell? ⟨gb230, 0, none⟩ = some (.int .i64 a0_0) := (blk_cell BK230.out 0).trans rfl
      have hcz10_1 : w3.cell? ⟨gb230, 1, none⟩ = some (.string a0_1) := (blk_cell BK230.out 1).trans rfl
      have hcz10_2 : w3.cell? ⟨gb230, 2, none⟩ = some (.int .i64 a0_2) := (blk_cell BK230.out 2).trans rfl
      have hcz10_3 : w3.cell? ⟨gb230, 3, none⟩ = some (.string a0_3) := (blk_cell BK230.out 3).trans rfl
      have hfz10_0 := blk_frozen BK230.out 0
      have hfz10_1 := blk_frozen BK230.out 1
      have hfz10_2 := blk_frozen BK230.out 2
      have hfz10_3 := blk_frozen BK230.out 3
      go_wp2
      go_meet
      case rel => exact ⟨_, (true), (by first | rfl | (simp; done) | (simp [*]; done)), H', ⟨by first | omega | exact Nat.le_refl _⟩, ⟨pxq BK230⟩, ⟨pxb HB⟩⟩
     ·rw [if_neg c9] at H
      have c9b0 : decide (a0_0 < 1) = false := decide_eq_false c9
      clear c9
      have H' := Aside0.mk H
      clear H
      have hcz11_0 : w3.cell? ⟨gb230, 0, none⟩ = some (.int .i64 a0_0) := (blk_cell BK230.out 0).trans rfl
      have hcz11_1 : w3.cell? ⟨gb230, 1, none⟩ = some (.string a0_1) := (blk_cell BK230.out 1).trans rfl
      have hcz11_2 : w3.cell? ⟨gb230, 2, none⟩ = some (.int .i64 a0_2) := (blk_cell BK230.out 2).trans rfl
      have hcz11_3 : w3.cell? ⟨gb230, 3, none⟩ = some (.string a0_3) := (blk_cell BK230.out 3).trans rfl
      have hfz11_0 := blk_frozen BK230.out 0
      have hfz11_1 := blk_frozen BK230.out 1
      have hfz11_2 := blk_frozen BK230.out 2
      have hfz11_3 := blk_frozen BK230.out 3
      go_wp2
      go_meet
      case rel => exact ⟨_, (decide (a0_0 > 6)), (by first | rfl | (simp; done) | (simp [*]; done)), H', ⟨by first | omega | exact Nat.le_refl _⟩, ⟨pxq BK230⟩, ⟨pxb HB⟩⟩
    ·rw [if_neg c8] at H
     have c8b0 : ((wrap64 ((a0_3.size : Int) - 1)) == a0_2) = false := beq_eq_false_iff_ne.mpr c8
     have c8b1 : ((wrap64 ((a0_3.size : Int) - 1)) != a0_2) = true := bne_iff_ne.mpr c8
     have H' := Aside0.mk H
     clear H
     have hcz12_0 : w3.cell? ⟨gb230, 0, none⟩ = some (.int .i64 a0_0) := (blk_cell BK230.out 0).trans rfl
     have hcz12_1 : w3.cell? ⟨gb230, 1, none⟩ = some (.string a0_1) := (blk_cell BK230.out 1).trans rfl
     have hcz12_2 : w3.cell? ⟨gb230, 2, none⟩ = some (.int .i64 a0_2) := (blk_cell BK230.out 2).trans rfl
     have hcz12_3 : w3.cell? ⟨gb230, 3, none⟩ = some (.string a0_3) := (blk_cell BK230.out 3).trans rfl
     have hfz12_0 := blk_frozen BK230.out 0
     have hfz12_1 := blk_frozen BK230.out 1
     have hfz12_2 := blk_frozen BK230.out 2
     have hfz12_3 := blk_frozen BK230.out 3
     go_wp2
     go_meet
     case rel => exact ⟨_, (true), (by first | rfl | (simp; done) | (simp [*]; done)), H', ⟨by first | omega | exact Nat.le_refl _⟩, ⟨pxq BK230⟩, ⟨pxb HB⟩⟩
 case rest =>
  clear HC2
  try clear c1
  try clear p2
  try clear c4
  try clear c4b0
  try clear c6
  try clear c6b0
  try clear p6
  try clear c8
  try clear c8b0
  try clear c8b1
  try clear c9
  try clear c9b0
  try clear hcz10_0
  try clear hcz10_1
  try clear hcz10_2
  try clear hcz10_3
  try clear hcz11_0
  try clear hcz11_1
  try clear hcz11_2
  try clear hcz11_3
  try clear hcz12_0
  try clear hcz12_1
  try clear hcz12_2
  try clear hcz12_3
  try clear hcz5_0
  try clear hcz5_1
  try clear hcz5_2
  try clear hcz5_3
  try clear hcz7_0
  try clear hcz7_1
  try clear hcz7_2
  try clear hcz7_3
  try clear hfz10_0
  try clear hfz10_1
  try clear hfz10_2
  try clear hfz10_3
  try clear hfz11_0
  try clear hfz11_1
  try clear hfz11_2
  try clear hfz11_3
  try clear hfz12_0
  try clear hfz12_1
  try clear hfz12_2
  try clear hfz12_3
  try clear hfz5_0
  try clear hfz5_1
  try clear hfz5_2
  try clear hfz5_3
  try clear hfz7_0
  try clear hfz7_1
  try clear hfz7_2
  try clear hfz7_3
  obtain ⟨kq, x31_1, rfl, HA, HJ1, BK230, HB⟩ := hcut
  cases kq with
  | zero => exact absurd HA.out (by simp [caulkerref07_Right.j0])
  | succ kj1 =>
   have H := HA.out
   clear HA
   simp only [caulkerref07_Right.j0] at H
   by_cases c13 : x31_1 = true
   ·subst c13
    have H1 : (some false) = some r := by rw [if_pos rfl] at H; exact H
    clear H
    have H := H1
    clear H1
    obtain rfl := Option.some.inj H
    go_wp2
    go_ret
    exact ⟨by first | rfl | (simp [errW_none, errW_some] <;> rfl) | (simp [*, errW_none, errW_some] <;> rfl) | (simp [*, pxbeq, pxbne, errW_none, errW_some]; done), pxb HB⟩
   ·replace c13 := Bool.eq_false_iff.mpr c13
    subst c13
    have H1 : (if a0_0 = 5 then (if a0_1.toList = ([] : List UInt8) then (caulkerref07_Right.j1 kj1 true a0_0 a0_1 a0_2 a0_3) else (if a0_0 = 6 then (caulkerref07_Right.j1 kj1 (decide (a0_2 > 0)) a0_0 a0_1 a0_2 a0_3) else (caulkerref07_Right.j1 kj1 false a0_0 a0_1 a0_2 a0_3))) else (if a0_1.toList = ([] : List UInt8) then (if a0_0 = 6 then (caulkerref07_Right.j1 kj1 (decide (a0_2 > 0)) a0_0 a0_1 a0_2 a0_3) else (caulkerref07_Right.j1 kj1 false a0_0 a0_1 a0_2 a0_3)) else (caulkerref07_Right.j1 kj1 true a0_0 a0_1 a0_2 a0_3))) = some r := by rw [if_neg (show ¬ (false = true) by decide)] at H; exact H
    clear H
    have H := H1
    clear H1
    have HC14 := Aside0.mk H
    clear H
    go_upto_region 3 with (fail)
    go_cut [59] (fun v59 wc => ∃ (kq : Nat) (x59_13 : Bool), v59 = .bool x59_13 ∧ Aside0 (caulkerref07_Right.j1 kq x59_13 a0_0 a0_1 a0_2 a0_3 = some r) ∧ Aside0 (kq ≤ kj1) ∧ Aside0 (wc.heap[gb230]? = some (.cells #[.int .i64 a0_0, .string a0_1, .int .i64 a0_2, .string a0_3] 23 (0, 0))) ∧ Aside0 (Below w.heap.size w wc))
    case first =>
     have H := HC14.out
     clear HC14
     by_cases c15 : a0_0 = 5
     ·rw [if_pos c15] at H
      have c15b0 : (a0_0 == 5) = true := beq_iff_eq.mpr c15
      have c15b1 : (a0_0 != 5) = false := bne_eq_false_iff_eq.mpr c15
      clear c15
      (first | rw [c15b0] | (simp only [i64_w, i32_w]; rw [c15b0]) | skip)
      by_cases c16 : a0_1.toList = ([] : List UInt8)
      ·rw [if_pos c16] at H
       have c16b0 : (a0_1.toList == ([] : List UInt8)) = true := beq_iff_eq.mpr c16
       (try (have c16b0e : (a0_1.toList.isEmpty) = true := by simpa only [pxbeq, pxbne] using c16b0))
       have c16b1 : (a0_1.toList != ([] : List UInt8)) = false := bne_eq_false_iff_eq.mpr c16
       (try (have c16b1e : ((!a0_1.toList.isEmpty)) = false := by simpa only [pxbeq, pxbne] using c16b1))
       clear c16
       have H' := Aside0.mk H
       clear H
       have hcz17_0 : wc.cell? ⟨gb230, 0, none⟩ = some (.int .i64 a0_0) := (blk_cell BK230.out 0).trans rfl
       have hcz17_1 : wc.cell? ⟨gb230, 1, none⟩ = some (.string a0_1) := (blk_cell BK230.out 1).trans rfl
       have hcz17_2 : wc.cell? ⟨gb230, 2, none⟩ = some (.int .i64 a0_2) := (blk_cell BK230.out 2).trans rfl
       have hcz17_3 : wc.cell? ⟨gb230, 3, none⟩ = some (.string a0_3) := (blk_cell BK230.out 3).trans rfl
       have hfz17_0 := blk_frozen BK230.out 0
       have hfz17_1 := blk_frozen BK230.out 1
       have hfz17_2 := blk_frozen BK230.out 2
       have hfz17_3 := blk_frozen BK230.out 3
       go_wp2
       go_meet
       case rel => exact ⟨_, (true), (by first | rfl | (simp; done) | (simp [*]; done)), H', ⟨by have := HJ1.out; first | omega | exact Nat.le_refl _⟩, ⟨pxq BK230⟩, ⟨pxb HB⟩⟩
      ·rw [if_neg c16] at H
       have c16b0 : (a0_1.toList == ([] : List UInt8)) = false := beq_eq_false_iff_ne.mpr c16
       (try (have c16b0e : (a0_1.toList.isEmpty) = false := by simpa only [pxbeq, pxbne] using c16b0))
       have c16b1 : (a0_1.toList != ([] : List UInt8)) = true := bne_iff_ne.mpr c16
       (try (have c16b1e : ((!a0_1.toList.isEmpty)) = true := by simpa only [pxbeq, pxbne] using c16b1))
       by_cases c18 : a0_0 = 6
       ·rw [if_pos c18] at H
        have c18b0 : (a0_0 == 6) = true := beq_iff_eq.mpr c18
        exact absurd ((beq_iff_eq.mp c15b0).symm.trans (beq_iff_eq.mp c18b0)) (by decide)
       ·rw [if_neg c18] at H
        have c18b0 : (a0_0 == 6) = false := beq_eq_false_iff_ne.mpr c18
        have c18b1 : (a0_0 != 6) = true := bne_iff_ne.mpr c18
        have H' := Aside0.mk H
        clear H
        have hcz20_0 : wc.cell? ⟨gb230, 0, none⟩ = some (.int .i64 a0_0) := (blk_cell BK230.out 0).trans rfl
        have hcz20_1 : wc.cell? ⟨gb230, 1, none⟩ = some (.string a0_1) := (blk_cell BK230.out 1).trans rfl
        have hcz20_2 : wc.cell? ⟨gb230, 2, none⟩ = some (.int .i64 a0_2) := (blk_cell BK230.out 2).trans rfl
        have hcz20_3 : wc.cell? ⟨gb230, 3, none⟩ = some (.string a0_3) := (blk_cell BK230.out 3).trans rfl
        have hfz20_0 := blk_frozen BK230.out 0
        have hfz20_1 := blk_frozen BK230.out 1
        have hfz20_2 := blk_frozen BK230.out 2
        have hfz20_3 := blk_frozen BK230.out 3
        go_wp2
        go_meet
        case rel => exact ⟨_, (false), (by first | rfl | (simp; done) | (simp [*]; done)), H', ⟨by have := HJ1.out; first | omega | exact Nat.le_refl _⟩, ⟨pxq BK230⟩, ⟨pxb HB⟩⟩
     ·rw [if_neg c15] at H
      have c15b0 : (a0_0 == 5) = false := beq_eq_false_iff_ne.mpr c15
      have c15b1 : (a0_0 != 5) = true := bne_iff_ne.mpr c15
      (first | rw [c15b0] | (simp only [i64_w, i32_w]; rw [c15b0]) | skip)
      by_cases c21 : a0_1.toList = ([] : List UInt8)
      ·rw [if_pos c21] at H
       have c21b0 : (a0_1.toList == ([] : List UInt8)) = true := beq_iff_eq.mpr c21
       (try (have c21b0e : (a0_1.toList.isEmpty) = true := by simpa only [pxbeq, pxbne] using c21b0))
       have c21b1 : (a0_1.toList != ([] : List UInt8)) = false := bne_eq_false_iff_eq.mpr c21
       (try (have c21b1e : ((!a0_1.toList.isEmpty)) = false := by simpa only [pxbeq, pxbne] using c21b1))
       clear c21
       by_cases c22 : a0_0 = 6
       ·rw [if_pos c22] at H
        have c22b0 : (a0_0 == 6) = true := beq_iff_eq.mpr c22
        have c22b1 : (a0_0 != 6) = false := bne_eq_false_iff_eq.mpr c22
        clear c22
        have H' := Aside0.mk H
        clear H
        have hcz23_0 : wc.cell? ⟨gb230, 0, none⟩ = some (.int .i64 a0_0) := (blk_cell BK230.out 0).trans rfl
        have hcz23_1 : wc.cell? ⟨gb230, 1, none⟩ = some (.string a0_1) := (blk_cell BK230.out 1).trans rfl
        have hcz23_2 : wc.cell? ⟨gb230, 2, none⟩ = some (.int .i64 a0_2) := (blk_cell BK230.out 2).trans rfl
        have hcz23_3 : wc.cell? ⟨gb230, 3, none⟩ = some (.string a0_3) := (blk_cell BK230.out 3).trans rfl
        have hfz23_0 := blk_frozen BK230.out 0
        have hfz23_1 := blk_frozen BK230.out 1
        have hfz23_2 := blk_frozen BK230.out 2
        have hfz23_3 := blk_frozen BK230.out 3
        go_wp2
        go_meet
        case rel => exact ⟨_, (decide (a0_2 > 0)), (by first | rfl | (simp; done) | (simp [*]; done)), H', ⟨by have := HJ1.out; first | omega | exact Nat.le_refl _⟩, ⟨pxq BK230⟩, ⟨pxb HB⟩⟩
       ·rw [if_neg c22] at H
        have c22b0 : (a0_0 == 6) = false := beq_eq_false_iff_ne.mpr c22
        have c22b1 : (a0_0 != 6) = true := bne_iff_ne.mpr c22
        have H' := Aside0.mk H
        clear H
        have hcz24_0 : wc.cell? ⟨gb230, 0, none⟩ = some (.int .i64 a0_0) := (blk_cell BK230.out 0).trans rfl
        have hcz24_1 : wc.cell? ⟨gb230, 1, none⟩ = some (.string a0_1) := (blk_cell BK230.out 1).trans rfl
        have hcz24_2 : wc.cell? ⟨gb230, 2, none⟩ = some (.int .i64 a0_2) := (blk_cell BK230.out 2).trans rfl
        have hcz24_3 : wc.cell? ⟨gb230, 3, none⟩ = some (.string a0_3) := (blk_cell BK230.out 3).trans rfl
        have hfz24_0 := blk_frozen BK230.out 0
        have hfz24_1 := blk_frozen BK230.out 1
        have hfz24_2 := blk_frozen BK230.out 2
        have hfz24_3 := blk_frozen BK230.out 3
        go_wp2
        go_meet
        case rel => exact ⟨_, (false), (by first | rfl | (simp; done) | (simp [*]; done)), H', ⟨by have := HJ1.out; first | omega | exact Nat.le_refl _⟩, ⟨pxq BK230⟩, ⟨pxb HB⟩⟩
      ·rw [if_neg c21] at H
       have c21b0 : (a0_1.toList == ([] : List UInt8)) = false := beq_eq_false_iff_ne.mpr c21
       (try (have c21b0e : (a0_1.toList.isEmpty) = false := by simpa only [pxbeq, pxbne] using c21b0))
       have c21b1 : (a0_1.toList != ([] : List UInt8)) = true := bne_iff_ne.mpr c21
       (try (have c21b1e : ((!a0_1.toList.isEmpty)) = true := by simpa only [pxbeq, pxbne] using c21b1))
       have H' := Aside0.mk H
       clear H
       have hcz25_0 : wc.cell? ⟨gb230, 0, none⟩ = some (.int .i64 a0_0) := (blk_cell BK230.out 0).trans rfl
       have hcz25_1 : wc.cell? ⟨gb230, 1, none⟩ = some (.string a0_1) := (blk_cell BK230.out 1).trans rfl
       have hcz25_2 : wc.cell? ⟨gb230, 2, none⟩ = some (.int .i64 a0_2) := (blk_cell BK230.out 2).trans rfl
       have hcz25_3 : wc.cell? ⟨gb230, 3, none⟩ = some (.string a0_3) := (blk_cell BK230.out 3).trans rfl
       have hfz25_0 := blk_frozen BK230.out 0
       have hfz25_1 := blk_frozen BK230.out 1
       have hfz25_2 := blk_frozen BK230.out 2
       have hfz25_3 := blk_frozen BK230.out 3
       go_wp2
       go_meet
       case rel => exact ⟨_, (true), (by first | rfl | (simp; done) | (simp [*]; done)), H', ⟨by have := HJ1.out; first | omega | exact Nat.le_refl _⟩, ⟨pxq BK230⟩, ⟨pxb HB⟩⟩
    case rest =>
     clear HC14
     try clear c1
     try clear c2
     try clear p2
     try clear c4
     try clear c4b0
     try clear c6
     try clear c6b0
     try clear p6
     try clear c8
     try clear c8b0
     try clear c8b1
     try clear c9
     try clear c9b0
     try clear c13
     try clear c15
     try clear c15b0
     try clear c15b1
     try clear c16
     try clear c16b0
     try clear c16b1
     try clear c18
     try clear c18b0
     try clear c18b1
     try clear c21
     try clear c21b0
     try clear c21b1
     try clear c22
     try clear c22b0
     try clear c22b1
     try clear hcz10_0
     try clear hcz10_1
     try clear hcz10_2
     try clear hcz10_3
     try clear hcz11_0
     try clear hcz11_1
     try clear hcz11_2
     try clear hcz11_3
     try clear hcz12_0
     try clear hcz12_1
     try clear hcz12_2
     try clear hcz12_3
     try clear hcz17_0
     try clear hcz17_1
     try clear hcz17_2
     try clear hcz17_3
     try clear hcz19_0
     try clear hcz19_1
     try clear hcz19_2
     try clear hcz19_3
     try clear hcz20_0
     try clear hcz20_1
     try clear hcz20_2
     try clear hcz20_3
     try clear hcz23_0
     try clear hcz23_1
     try clear hcz23_2
     try clear hcz23_3
     try clear hcz24_0
     try clear hcz24_1
     try clear hcz24_2
     try clear hcz24_3
     try clear hcz25_0
     try clear hcz25_1
     try clear hcz25_2
     try clear hcz25_3
     try clear hcz5_0
     try clear hcz5_1
     try clear hcz5_2
     try clear hcz5_3
     try clear hcz7_0
     try clear hcz7_1
     try clear hcz7_2
     try clear hcz7_3
     try clear hfz10_0
     try clear hfz10_1
     try clear hfz10_2
     try clear hfz10_3
     try clear hfz11_0
     try clear hfz11_1
     try clear hfz11_2
     try clear hfz11_3
     try clear hfz12_0
     try clear hfz12_1
     try clear hfz12_2
     try clear hfz12_3
     try clear hfz17_0
     try clear hfz17_1
     try clear hfz17_2
     try clear hfz17_3
     try clear hfz19_0
     try clear hfz19_1
     try clear hfz19_2
     try clear hfz19_3
     try clear hfz20_0
     try clear hfz20_1
     try clear hfz20_2
     try clear hfz20_3
     try clear hfz23_0
     try clear hfz23_1
     try clear hfz23_2
     try clear hfz23_3
     try clear hfz24_0
     try clear hfz24_1
     try clear hfz24_2
     try clear hfz24_3
     try clear hfz25_0
     try clear hfz25_1
     try clear hfz25_2
     try clear hfz25_3
     try clear hfz5_0
     try clear hfz5_1
     try clear hfz5_2
     try clear hfz5_3
     try clear hfz7_0
     try clear hfz7_1
     try clear hfz7_2
     try clear hfz7_3
     try clear p2
     try clear p6
     obtain ⟨kq, x59_13, rfl, HA, HJ13, BK230, HB⟩ := hcut
     cases kq with
     | zero => exact absurd HA.out (by simp [caulkerref07_Right.j1])
     | succ kj13 =>
      have H := HA.out
      clear HA
      simp only [caulkerref07_Right.j1] at H
      by_cases c26 : x59_13 = true
      ·subst c26
       have H1 : (some false) = some r := by rw [if_pos rfl] at H; exact H
       clear H
       have H := H1
       clear H1
       obtain rfl := Option.some.inj H
       go_wp2
       go_ret
       exact ⟨by first | rfl | (simp [errW_none, errW_some] <;> rfl) | (simp [*, errW_none, errW_some] <;> rfl) | (simp [*, pxbeq, pxbne, errW_none, errW_some]; done), pxb HB⟩
      ·replace c26 := Bool.eq_false_iff.mpr c26
       subst c26
       have H1 : (caulkerref07_Right.l0 kj13 0 a0_0 a0_1 a0_2 a0_3) = some r := by rw [if_neg (show ¬ (false = true) by decide)] at H; exact H
       clear H
       have H := H1
       clear H1
       have H' := Aside0.mk H
       clear H
       go_wp2
       go_loopg [3] kj13 (fun kq v3 w' => ∃ (x3_3 : Int), v3 = .int .i64 x3_3 ∧ Aside0 (caulkerref07_Right.l0 kq x3_3 a0_0 a0_1 a0_2 a0_3 = some r) ∧ Aside0 (kq ≤ kj13) ∧ Aside0 (w'.heap[gb230]? = some (.cells #[.int .i64 a0_0, .string a0_1, .int .i64 a0_2, .string a0_3] 23 (0, 0))) ∧ Aside0 (Below w.heap.size w w'))
       case atStart => exact ⟨(0), (by first | rfl | (simp; done) | (simp [*]; done)), H', ⟨Nat.le_refl _⟩, ⟨pxq BK230⟩, ⟨pxb HB⟩⟩
       case round =>
        clear H'
        try clear c1
        try clear c2
        try clear p2
        try clear c4
        try clear c4b0
        try clear c6
        try clear c6b0
        try clear p6
        try clear c8
        try clear c8b0
        try clear c8b1
        try clear c9
        try clear c9b0
        try clear c13
        try clear c15
        try clear c15b0
        try clear c15b1
        try clear c16
        try clear c16b0
        try clear c16b1
        try clear c18
        try clear c18b0
        try clear c18b1
        try clear c21
        try clear c21b0
        try clear c21b1
        try clear c22
        try clear c22b0
        try clear c22b1
        try clear c26
        try clear hcz10_0
        try clear hcz10_1
        try clear hcz10_2
        try clear hcz10_3
        try clear hcz11_0
        try clear hcz11_1
        try clear hcz11_2
        try clear hcz11_3
        try clear hcz12_0
        try clear hcz12_1
        try clear hcz12_2
        try clear hcz12_3
        try clear hcz17_0
        try clear hcz17_1
        try clear hcz17_2
        try clear hcz17_3
        try clear hcz19_0
        try clear hcz19_1
        try clear hcz19_2
        try clear hcz19_3
        try clear hcz20_0
        try clear hcz20_1
        try clear hcz20_2
        try clear hcz20_3
        try clear hcz23_0
        try clear hcz23_1
        try clear hcz23_2
        try clear hcz23_3
        try clear hcz24_0
        try clear hcz24_1
        try clear hcz24_2
        try clear hcz24_3
        try clear hcz25_0
        try clear hcz25_1
        try clear hcz25_2
        try clear hcz25_3
        try clear hcz5_0
        try clear hcz5_1
        try clear hcz5_2
        try clear hcz5_3
        try clear hcz7_0
        try clear hcz7_1
        try clear hcz7_2
        try clear hcz7_3
        try clear hfz10_0
        try clear hfz10_1
        try clear hfz10_2
        try clear hfz10_3
        try clear hfz11_0
        try clear hfz11_1
        try clear hfz11_2
        try clear hfz11_3
        try clear hfz12_0
        try clear hfz12_1
        try clear hfz12_2
        try clear hfz12_3
        try clear hfz17_0
        try clear hfz17_1
        try clear hfz17_2
        try clear hfz17_3
        try clear hfz19_0
        try clear hfz19_1
        try clear hfz19_2
        try clear hfz19_3
        try clear hfz20_0
        try clear hfz20_1
        try clear hfz20_2
        try clear hfz20_3
        try clear hfz23_0
        try clear hfz23_1
        try clear hfz23_2
        try clear hfz23_3
        try clear hfz24_0
        try clear hfz24_1
        try clear hfz24_2
        try clear hfz24_3
        try clear hfz25_0
        try clear hfz25_1
        try clear hfz25_2
        try clear hfz25_3
        try clear hfz5_0
        try clear hfz5_1
        try clear hfz5_2
        try clear hfz5_3
        try clear hfz7_0
        try clear hfz7_1
        try clear hfz7_2
        try clear hfz7_3
        try clear p2
        try clear p6
        obtain ⟨x3_3, rfl, HA, HK3, BK230, HB⟩ := hrel
        cases gk with
        | zero => exact absurd HA.out (by simp [caulkerref07_Right.l0])
        | succ k3 =>
         have H := HA.out
         clear HA
         simp only [caulkerref07_Right.l0] at H
         by_cases c27 : x3_3 < (a0_3.size : Int)
         ·rw [if_pos c27] at H
          have c27b0 : decide (x3_3 < (a0_3.size : Int)) = true := decide_eq_true c27
          clear c27
          by_cases c28 : 0 ≤ x3_3
          ·rw [if_pos c28] at H
           have c28b0 : decide (0 ≤ x3_3) = true := decide_eq_true c28
           clear c28
           have HC30 := Aside0.mk H
           clear H
           have hcz31_0 : wr.cell? ⟨gb230, 0, none⟩ = some (.int .i64 a0_0) := (blk_cell BK230.out 0).trans rfl
           have hcz31_1 : wr.cell? ⟨gb230, 1, none⟩ = some (.string a0_1) := (blk_cell BK230.out 1).trans rfl
           have hcz31_2 : wr.cell? ⟨gb230, 2, none⟩ = some (.int .i64 a0_2) := (blk_cell BK230.out 2).trans rfl
           have hcz31_3 : wr.cell? ⟨gb230, 3, none⟩ = some (.string a0_3) := (blk_cell BK230.out 3).trans rfl
           have hfz31_0 := blk_frozen BK230.out 0
           have hfz31_1 := blk_frozen BK230.out 1
           have hfz31_2 := blk_frozen BK230.out 2
           have hfz31_3 := blk_frozen BK230.out 3
           have p29 : 0 ≤ (x3_3 : Int) := of_decide_eq_true (by first | (with_reducible assumption) | assumption)
           have q29 : x3_3 < (a0_3.size : Int) := of_decide_eq_true (by first | (with_reducible assumption) | assumption)
           have hx29 := bt_at a0_3 x3_3
           replace p29 := eq_true p29
           replace q29 := eq_true q29
           go_upto_region 9 with (fail)
           go_cut [80] (fun v80 wc => ∃ (kq : Nat) (x80_29 : Bool), v80 = .bool x80_29 ∧ Aside0 (caulkerref07_Right.j3 kq x3_3 (bt a0_3 x3_3) x80_29 a0_0 a0_1 a0_2 a0_3 = some r) ∧ Aside0 (kq ≤ k3) ∧ Aside0 (wc.heap[gb230]? = some (.cells #[.int .i64 a0_0, .string a0_1, .int .i64 a0_2, .string a0_3] 23 (0, 0))) ∧ Aside0 (Below w.heap.size w wc))
           case first =>
            have H := HC30.out
            clear HC30
            by_cases c32 : (bt a0_3 x3_3) = 32
            ·rw [if_pos c32] at H
             have c32b0 : ((bt a0_3 x3_3) == 32) = true := beq_iff_eq.mpr c32
             have c32b1 : ((bt a0_3 x3_3) != 32) = false := bne_eq_false_iff_eq.mpr c32
             clear c32
             (first | rw [c32b0] | (simp only [i64_w, i32_w]; rw [c32b0]) | skip)
             have H' := Aside0.mk H
             clear H
             go_wp2
             go_meet
             case rel => exact ⟨_, (false), (by first | rfl | (simp; done) | (simp [*]; done)), H', ⟨by have := HJ1.out; have := HJ13.out; have := HK3.out; first | omega | exact Nat.le_refl _⟩, ⟨pxq BK230⟩, ⟨pxb HB⟩⟩
            ·rw [if_neg c32] at H
             have c32b0 : ((bt a0_3 x3_3) == 32) = false := beq_eq_false_iff_ne.mpr c32
             have c32b1 : ((bt a0_3 x3_3) != 32) = true := bne_iff_ne.mpr c32
             (first | rw [c32b0] | (simp only [i64_w, i32_w]; rw [c32b0]) | skip)
             by_cases c33 : (bt a0_3 x3_3) = 63
             ·rw [if_pos c33] at H
              have c33b0 : ((bt a0_3 x3_3) == 63) = true := beq_iff_eq.mpr c33
              have c33b1 : ((bt a0_3 x3_3) != 63) = false := bne_eq_false_iff_eq.mpr c33
              clear c33
              have H' := Aside0.mk H
              clear H
              go_wp2
              go_meet
              case rel => exact ⟨_, (false), (by first | rfl | (simp; done) | (simp [*]; done)), H', ⟨by have := HJ1.out; have := HJ13.out; have := HK3.out; first | omega | exact Nat.le_refl _⟩, ⟨pxq BK230⟩, ⟨pxb HB⟩⟩
             ·rw [if_neg c33] at H
              have c33b0 : ((bt a0_3 x3_3) == 63) = false := beq_eq_false_iff_ne.mpr c33
              have c33b1 : ((bt a0_3 x3_3) != 63) = true := bne_iff_ne.mpr c33
              have H' := Aside0.mk H
              clear H
              go_wp2
              go_meet
              case rel => exact ⟨_, (((bt a0_3 x3_3) != 111)), (by first | rfl | (simp; done) | (simp [*]; done)), H', ⟨by have := HJ1.out; have := HJ13.out; have := HK3.out; first | omega | exact Nat.le_refl _⟩, ⟨pxq BK230⟩, ⟨pxb HB⟩⟩
           case rest =>
            clear HC30
            try clear c1
            try clear c2
            try clear p2
            try clear q2
            try clear hx2
            try clear c3
            try clear c4
            try clear c4b0
            try clear c6
            try clear c6b0
            try clear p6
            try clear c8
            try clear c8b0
            try clear c8b1
            try clear c9
            try clear c9b0
            try clear c13
            try clear c15
            try clear c15b0
            try clear c15b1
            try clear c16
            try clear c16b0
            try clear c16b1
            try clear c18
            try clear c18b0
            try clear c18b1
            try clear c21
            try clear c21b0
            try clear c21b1
            try clear c22
            try clear c22b0
            try clear c22b1
            try clear c26
            try clear c27
            try clear c27b0
            try clear c28
            try clear c28b0
            try clear p29
            try clear q29
            try clear hx29
            try clear c32
            try clear c32b0
            try clear c32b1
            try clear c33
            try clear c33b0
            try clear c33b1
            try clear hcz10_0
            try clear hcz10_1
            try clear hcz10_2
            try clear hcz10_3
            try clear hcz11_0
            try clear hcz11_1
            try clear hcz11_2
            try clear hcz11_3
            try clear hcz12_0
            try clear hcz12_1
            try clear hcz12_2
            try clear hcz12_3
            try clear hcz17_0
            try clear hcz17_1
            try clear hcz17_2
            try clear hcz17_3
            try clear hcz19_0
            try clear hcz19_1
            try clear hcz19_2
            try clear hcz19_3
            try clear hcz20_0
            try clear hcz20_1
            try clear hcz20_2
            try clear hcz20_3
            try clear hcz23_0
            try clear hcz23_1
            try clear hcz23_2
            try clear hcz23_3
            try clear hcz24_0
            try clear hcz24_1
            try clear hcz24_2
            try clear hcz24_3
            try clear hcz25_0
            try clear hcz25_1
            try clear hcz25_2
            try clear hcz25_3
            try clear hcz31_0
            try clear hcz31_1
            try clear hcz31_2
            try clear hcz31_3
            try clear hcz5_0
            try clear hcz5_1
            try clear hcz5_2
            try clear hcz5_3
            try clear hcz7_0
            try clear hcz7_1
            try clear hcz7_2
            try clear hcz7_3
            try clear hfz10_0
            try clear hfz10_1
            try clear hfz10_2
            try clear hfz10_3
            try clear hfz11_0
            try clear hfz11_1
            try clear hfz11_2
            try clear hfz11_3
            try clear hfz12_0
            try clear hfz12_1
            try clear hfz12_2
            try clear hfz12_3
            try clear hfz17_0
            try clear hfz17_1
            try clear hfz17_2
            try clear hfz17_3
            try clear hfz19_0
            try clear hfz19_1
            try clear hfz19_2
            try clear hfz19_3
            try clear hfz20_0
            try clear hfz20_1
            try clear hfz20_2
            try clear hfz20_3
            try clear hfz23_0
            try clear hfz23_1
            try clear hfz23_2
            try clear hfz23_3
            try clear hfz24_0
            try clear hfz24_1
            try clear hfz24_2
            try clear hfz24_3
            try clear hfz25_0
            try clear hfz25_1
            try clear hfz25_2
            try clear hfz25_3
            try clear hfz31_0
            try clear hfz31_1
            try clear hfz31_2
            try clear hfz31_3
            try clear hfz5_0
            try clear hfz5_1
            try clear hfz5_2
            try clear hfz5_3
            try clear hfz7_0
            try clear hfz7_1
            try clear hfz7_2
            try clear hfz7_3
            try clear p2
            try clear p29
            try clear p6
            try clear q29
            obtain ⟨kq, x80_29, rfl, HA, HJ29, BK230, HB⟩ := hcut
            cases kq with
            | zero => exact absurd HA.out (by simp [caulkerref07_Right.j3])
            | succ kj29 =>
             have H := HA.out
             clear HA
             simp only [caulkerref07_Right.j3] at H
             by_cases c34 : x80_29 = true
             ·subst c34
              have H1 : (some false) = some r := by rw [if_pos rfl] at H; exact H
              clear H
              have H := H1
              clear H1
              obtain rfl := Option.some.inj H
              go_wp2
              go_ret
              exact ⟨by first | rfl | (simp [errW_none, errW_some] <;> rfl) | (simp [*, errW_none, errW_some] <;> rfl) | (simp [*, pxbeq, pxbne, errW_none, errW_some]; done), pxb HB⟩
             ·replace c34 := Bool.eq_false_iff.mpr c34
              subst c34
              have H1 : (if (bt a0_3 x3_3) = 32 then (if (bt a0_3 x3_3) = 111 then (if x3_3 < a0_2 then (some false) else (caulkerref07_Right.l0 kj29 (wrap64 (x3_3 + 1)) a0_0 a0_1 a0_2 a0_3)) else (caulkerref07_Right.l0 kj29 (wrap64 (x3_3 + 1)) a0_0 a0_1 a0_2 a0_3)) else (if x3_3 = 0 then (if a0_0 = 5 then (if (bt a0_3 x3_3) = 111 then (if x3_3 < a0_2 then (some false) else (caulkerref07_Right.l0 kj29 (wrap64 (x3_3 + 1)) a0_0 a0_1 a0_2 a0_3)) else (caulkerref07_Right.l0 kj29 (wrap64 (x3_3 + 1)) a0_0 a0_1 a0_2 a0_3)) else (some false)) else (if (bt a0_3 x3_3) = 111 then (if x3_3 < a0_2 then (some false) else (caulkerref07_Right.l0 kj29 (wrap64 (x3_3 + 1)) a0_0 a0_1 a0_2 a0_3)) else (caulkerref07_Right.l0 kj29 (wrap64 (x3_3 + 1)) a0_0 a0_1 a0_2 a0_3)))) = some r := by rw [if_neg (show ¬ (false = true) by decide)] at H; exact H
              clear H
              have H := H1
              clear H1
              by_cases c35 : (bt a0_3 x3_3) = 32
              ·rw [if_pos c35] at H
               have c35b0 : ((bt a0_3 x3_3) == 32) = true := beq_iff_eq.mpr c35
               have c35b1 : ((bt a0_3 x3_3) != 32) = false := bne_eq_false_iff_eq.mpr c35
               clear c35
               by_cases c36 : (bt a0_3 x3_3) = 111
               ·rw [if_pos c36] at H
                have c36b0 : ((bt a0_3 x3_3) == 111) = true := beq_iff_eq.mpr c36
                exact absurd ((beq_iff_eq.mp c35b0).symm.trans (beq_iff_eq.mp c36b0)) (by decide)
               ·rw [if_neg c36] at H
                have c36b0 : ((bt a0_3 x3_3) == 111) = false := beq_eq_false_iff_ne.mpr c36
                have c36b1 : ((bt a0_3 x3_3) != 111) = true := bne_iff_ne.mpr c36
                have H' := Aside0.mk H
                clear H
                go_wp2
                go_roundg kj29
                case measure => have := HJ1.out; have := HJ13.out; have := HK3.out; have := HJ29.out; omega
                case rel => exact ⟨(wrap64 (x3_3 + 1)), (by first | rfl | (simp; done) | (simp [*]; done)), H', ⟨by have := HJ1.out; have := HJ13.out; have := HK3.out; have := HJ29.out; omega⟩, ⟨pxq BK230⟩, ⟨pxb HB⟩⟩
              ·rw [if_neg c35] at H
               have c35b0 : ((bt a0_3 x3_3) == 32) = false := beq_eq_false_iff_ne.mpr c35
               have c35b1 : ((bt a0_3 x3_3) != 32) = true := bne_iff_ne.mpr c35
               by_cases c40 : x3_3 = 0
               ·rw [if_pos c40] at H
                have c40b0 : (x3_3 == 0) = true := beq_iff_eq.mpr c40
                have c40b1 : (x3_3 != 0) = false := bne_eq_false_iff_eq.mpr c40
                clear c40
                by_cases c41 : a0_0 = 5
                ·rw [if_pos c41] at H
                 have c41b0 : (a0_0 == 5) = true := beq_iff_eq.mpr c41
                 have c41b1 : (a0_0 != 5) = false := bne_eq_false_iff_eq.mpr c41
                 clear c41
                 by_cases c42 : (bt a0_3 x3_3) = 111
                 ·rw [if_pos c42] at H
                  have c42b0 : ((bt a0_3 x3_3) == 111) = true := beq_iff_eq.mpr c42
                  have c42b1 : ((bt a0_3 x3_3) != 111) = false := bne_eq_false_iff_eq.mpr c42
                  clear c42
                  by_cases c43 : x3_3 < a0_2
                  ·rw [if_pos c43] at H
                   have c43b0 : decide (x3_3 < a0_2) = true := decide_eq_true c43
                   clear c43
                   obtain rfl := Option.some.inj H
                   have hcz44_0 : wc.cell? ⟨gb230, 0, none⟩ = some (.int .i64 a0_0) := (blk_cell BK230.out 0).trans rfl
                   have hcz44_1 : wc.cell? ⟨gb230, 1, none⟩ = some (.string a0_1) := (blk_cell BK230.out 1).trans rfl
                   have hcz44_2 : wc.cell? ⟨gb230, 2, none⟩ = some (.int .i64 a0_2) := (blk_cell BK230.out 2).trans rfl
                   have hcz44_3 : wc.cell? ⟨gb230, 3, none⟩ = some (.string a0_3) := (blk_cell BK230.out 3).trans rfl
                   have hfz44_0 := blk_frozen BK230.out 0
                   have hfz44_1 := blk_frozen BK230.out 1
                   have hfz44_2 := blk_frozen BK230.out 2
                   have hfz44_3 := blk_frozen BK230.out 3
                   go_wp2
                   go_ret
                   exact ⟨by first | rfl | (simp [errW_none, errW_some] <;> rfl) | (simp [*, errW_none, errW_some] <;> rfl) | (simp [*, pxbeq, pxbne, errW_none, errW_some]; done), pxb HB⟩
                  ·rw [if_neg c43] at H
                   have c43b0 : decide (x3_3 < a0_2) = false := decide_eq_false c43
                   clear c43
                   have H' := Aside0.mk H
                   clear H
                   have hcz45_0 : wc.cell? ⟨gb230, 0, none⟩ = some (.int .i64 a0_0) := (blk_cell BK230.out 0).trans rfl
                   have hcz45_1 : wc.cell? ⟨gb230, 1, none⟩ = some (.string a0_1) := (blk_cell BK230.out 1).trans rfl
                   have hcz45_2 : wc.cell? ⟨gb230, 2, none⟩ = some (.int .i64 a0_2) := (blk_cell BK230.out 2).trans rfl
                   have hcz45_3 : wc.cell? ⟨gb230, 3, none⟩ = some (.string a0_3) := (blk_cell BK230.out 3).trans rfl
                   have hfz45_0 := blk_frozen BK230.out 0
                   have hfz45_1 := blk_frozen BK230.out 1
                   have hfz45_2 := blk_frozen BK230.out 2
                   have hfz45_3 := blk_frozen BK230.out 3
                   go_wp2
                   go_roundg kj29
                   case measure => have := HJ1.out; have := HJ13.out; have := HK3.out; have := HJ29.out; omega
                   case rel => exact ⟨(wrap64 (x3_3 + 1)), (by first | rfl | (simp; done) | (simp [*]; done)), H', ⟨by have := HJ1.out; have := HJ13.out; have := HK3.out; have := HJ29.out; omega⟩, ⟨pxq BK230⟩, ⟨pxb HB⟩⟩
                 ·rw [if_neg c42] at H
                  have c42b0 : ((bt a0_3 x3_3) == 111) = false := beq_eq_false_iff_ne.mpr c42
                  have c42b1 : ((bt a0_3 x3_3) != 111) = true := bne_iff_ne.mpr c42
                  have H' := Aside0.mk H
                  clear H
                  have hcz46_0 : wc.cell? ⟨gb230, 0, none⟩ = some (.int .i64 a0_0) := (blk_cell BK230.out 0).trans rfl
                  have hcz46_1 : wc.cell? ⟨gb230, 1, none⟩ = some (.string a0_1) := (blk_cell BK230.out 1).trans rfl
                  have hcz46_2 : wc.cell? ⟨gb230, 2, none⟩ = some (.int .i64 a0_2) := (blk_cell BK230.out 2).trans rfl
                  have hcz46_3 : wc.cell? ⟨gb230, 3, none⟩ = some (.string a0_3) := (blk_cell BK230.out 3).trans rfl
                  have hfz46_0 := blk_frozen BK230.out 0
                  have hfz46_1 := blk_frozen BK230.out 1
                  have hfz46_2 := blk_frozen BK230.out 2
                  have hfz46_3 := blk_frozen BK230.out 3
                  go_wp2
                  go_roundg kj29
                  case measure => have := HJ1.out; have := HJ13.out; have := HK3.out; have := HJ29.out; omega
                  case rel => exact ⟨(wrap64 (x3_3 + 1)), (by first | rfl | (simp; done) | (simp [*]; done)), H', ⟨by have := HJ1.out; have := HJ13.out; have := HK3.out; have := HJ29.out; omega⟩, ⟨pxq BK230⟩, ⟨pxb HB⟩⟩
                ·rw [if_neg c41] at H
                 have c41b0 : (a0_0 == 5) = false := beq_eq_false_iff_ne.mpr c41
                 have c41b1 : (a0_0 != 5) = true := bne_iff_ne.mpr c41
                 obtain rfl := Option.some.inj H
                 have hcz47_0 : wc.cell? ⟨gb230, 0, none⟩ = some (.int .i64 a0_0) := (blk_cell BK230.out 0).trans rfl
                 have hcz47_1 : wc.cell? ⟨gb230, 1, none⟩ = some (.string a0_1) := (blk_cell BK230.out 1).trans rfl
                 have hcz47_2 : wc.cell? ⟨gb230, 2, none⟩ = some (.int .i64 a0_2) := (blk_cell BK230.out 2).trans rfl
                 have hcz47_3 : wc.cell? ⟨gb230, 3, none⟩ = some (.string a0_3) := (blk_cell BK230.out 3).trans rfl
                 have hfz47_0 := blk_frozen BK230.out 0
                 have hfz47_1 := blk_frozen BK230.out 1
                 have hfz47_2 := blk_frozen BK230.out 2
                 have hfz47_3 := blk_frozen BK230.out 3
                 go_wp2
                 go_ret
                 exact ⟨by first | rfl | (simp [errW_none, errW_some] <;> rfl) | (simp [*, errW_none, errW_some] <;> rfl) | (simp [*, pxbeq, pxbne, errW_none, errW_some]; done), pxb HB⟩
               ·rw [if_neg c40] at H
                have c40b0 : (x3_3 == 0) = false := beq_eq_false_iff_ne.mpr c40
                have c40b1 : (x3_3 != 0) = true := bne_iff_ne.mpr c40
                by_cases c48 : (bt a0_3 x3_3) = 111
                ·rw [if_pos c48] at H
                 have c48b0 : ((bt a0_3 x3_3) == 111) = true := beq_iff_eq.mpr c48
                 have c48b1 : ((bt a0_3 x3_3) != 111) = false := bne_eq_false_iff_eq.mpr c48
                 clear c48
                 by_cases c49 : x3_3 < a0_2
                 ·rw [if_pos c49] at H
                  have c49b0 : decide (x3_3 < a0_2) = true := decide_eq_true c49
                  clear c49
                  obtain rfl := Option.some.inj H
                  have hcz50_0 : wc.cell? ⟨gb230, 0, none⟩ = some (.int .i64 a0_0) := (blk_cell BK230.out 0).trans rfl
                  have hcz50_1 : wc.cell? ⟨gb230, 1, none⟩ = some (.string a0_1) := (blk_cell BK230.out 1).trans rfl
                  have hcz50_2 : wc.cell? ⟨gb230, 2, none⟩ = some (.int .i64 a0_2) := (blk_cell BK230.out 2).trans rfl
                  have hcz50_3 : wc.cell? ⟨gb230, 3, none⟩ = some (.string a0_3) := (blk_cell BK230.out 3).trans rfl
                  have hfz50_0 := blk_frozen BK230.out 0
                  have hfz50_1 := blk_frozen BK230.out 1
                  have hfz50_2 := blk_frozen BK230.out 2
                  have hfz50_3 := blk_frozen BK230.out 3
                  go_wp2
                  go_ret
                  exact ⟨by first | rfl | (simp [errW_none, errW_some] <;> rfl) | (simp [*, errW_none, errW_some] <;> rfl) | (simp [*, pxbeq, pxbne, errW_none, errW_some]; done), pxb HB⟩
                 ·rw [if_neg c49] at H
                  have c49b0 : decide (x3_3 < a0_2) = false := decide_eq_false c49
                  clear c49
                  have H' := Aside0.mk H
                  clear H
                  have hcz51_0 : wc.cell? ⟨gb230, 0, none⟩ = some (.int .i64 a0_0) := (blk_cell BK230.out 0).trans rfl
                  have hcz51_1 : wc.cell? ⟨gb230, 1, none⟩ = some (.string a0_1) := (blk_cell BK230.out 1).trans rfl
                  have hcz51_2 : wc.cell? ⟨gb230, 2, none⟩ = some (.int .i64 a0_2) := (blk_cell BK230.out 2).trans rfl
                  have hcz51_3 : wc.cell? ⟨gb230, 3, none⟩ = some (.string a0_3) := (blk_cell BK230.out 3).trans rfl
                  have hfz51_0 := blk_frozen BK230.out 0
                  have hfz51_1 := blk_frozen BK230.out 1
                  have hfz51_2 := blk_frozen BK230.out 2
                  have hfz51_3 := blk_frozen BK230.out 3
                  go_wp2
                  go_roundg kj29
                  case measure => have := HJ1.out; have := HJ13.out; have := HK3.out; have := HJ29.out; omega
                  case rel => exact ⟨(wrap64 (x3_3 + 1)), (by first | rfl | (simp; done) | (simp [*]; done)), H', ⟨by have := HJ1.out; have := HJ13.out; have := HK3.out; have := HJ29.out; omega⟩, ⟨pxq BK230⟩, ⟨pxb HB⟩⟩
                ·rw [if_neg c48] at H
                 have c48b0 : ((bt a0_3 x3_3) == 111) = false := beq_eq_false_iff_ne.mpr c48
                 have c48b1 : ((bt a0_3 x3_3) != 111) = true := bne_iff_ne.mpr c48
                 have H' := Aside0.mk H
                 clear H
                 go_wp2
                 go_roundg kj29
                 case measure => have := HJ1.out; have := HJ13.out; have := HK3.out; have := HJ29.out; omega
                 case rel => exact ⟨(wrap64 (x3_3 + 1)), (by first | rfl | (simp; done) | (simp [*]; done)), H', ⟨by have := HJ1.out; have := HJ13.out; have := HK3.out; have := HJ29.out; omega⟩, ⟨pxq BK230⟩, ⟨pxb HB⟩⟩
          ·rw [if_neg c28] at H
           exact absurd H (by simp)
         ·rw [if_neg c27] at H
          have c27b0 : decide (x3_3 < (a0_3.size : Int)) = false := decide_eq_false c27
          clear c27
          obtain rfl := Option.some.inj H
          have hcz52_0 : wr.cell? ⟨gb230, 0, none⟩ = some (.int .i64 a0_0) := (blk_cell BK230.out 0).trans rfl
          have hcz52_1 : wr.cell? ⟨gb230, 1, none⟩ = some (.string a0_1) := (blk_cell BK230.out 1).trans rfl
          have hcz52_2 : wr.cell? ⟨gb230, 2, none⟩ = some (.int .i64 a0_2) := (blk_cell BK230.out 2).trans rfl
          have hcz52_3 : wr.cell? ⟨gb230, 3, none⟩ = some (.string a0_3) := (blk_cell BK230.out 3).trans rfl
          have hfz52_0 := blk_frozen BK230.out 0
          have hfz52_1 := blk_frozen BK230.out 1
          have hfz52_2 := blk_frozen BK230.out 2
          have hfz52_3 := blk_frozen BK230.out 3
          go_wp2
          go_ret
          exact ⟨by first | rfl | (simp [errW_none, errW_some] <;> rfl) | (simp [*, errW_none, errW_some] <;> rfl) | (simp [*, pxbeq, pxbne, errW_none, errW_some]; done), pxb HB⟩

end Go.Proofs.Ytljchkghnmnpgaa.X
