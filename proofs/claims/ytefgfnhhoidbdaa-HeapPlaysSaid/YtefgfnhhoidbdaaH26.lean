/- What the program's functions answer, as Lean functions, and that each call does just that; no condition. Written by a program (px.py) out of the translation. -/
import Derived.Test.YtefgfnhhoidbdaaH0
import Derived.Test.YtefgfnhhoidbdaaShort2
namespace Go.Proofs.Ytefgfnhhoidbdaa.H
open Go.RowKit Go.Proofs.YtefgfnhhoidbdaaW.PrintWords Go.Proofs.YtefgfnhhoidbdaaW.PrintLast Go.Proofs.YtefgfnhhoidbdaaW.PrintMore
attribute [local go_sem] max2_int min2_int max_two min_two max_three min_three max_four min_four   -- for this text's walks alone
set_option linter.unusedVariables false
set_option linter.unusedSimpArgs false

/-! ### caulkerlaw15_empty: function 26 -/
mutual
def caulkerlaw15_empty.j0 : Nat → Bool → Int → ByteArray → Int → ByteArray → Option (Int × Int × ByteArray)
 | 0, _, _, _, _, _ => none
 | k + 1, x15, x150000, x150001, x150002, x150003 => if x15 = true then (some (8, 0, (⟨#[]⟩ : ByteArray))) else (if x150002 > 0 then (caulkerlaw15_empty.j1 k true x150000 x150001 x150002 x150003) else (if x150000 = 5 then (caulkerlaw15_empty.j1 k true x150000 x150001 x150002 x150003) else (if x150000 = 7 then (caulkerlaw15_empty.j1 k true x150000 x150001 x150002 x150003) else (caulkerlaw15_empty.j1 k (x150000 == 8) x150000 x150001 x150002 x150003))))
def caulkerlaw15_empty.j1 : Nat → Bool → Int → ByteArray → Int → ByteArray → Option (Int × Int × ByteArray)
 | 0, _, _, _, _, _ => none
 | k + 1, x34, x150000, x150001, x150002, x150003 => if x34 = true then (some (7, 0, (⟨#[]⟩ : ByteArray))) else (if x150000 = 0 then (some (0, 0, (⟨#[]⟩ : ByteArray))) else (if x150000 = 6 then (some (0, 0, (⟨#[]⟩ : ByteArray))) else (some (x150000, 0, (⟨#[]⟩ : ByteArray)))))
end
def caulkerlaw15_empty.f (k : Nat) (a0_0 : Int) (a0_1 : ByteArray) (a0_2 : Int) (a0_3 : ByteArray) : Option (Int × Int × ByteArray) := if a0_3.toList = ([] : List UInt8) then (caulkerlaw15_empty.j0 k false a0_0 a0_1 a0_2 a0_3) else (if 0 ≤ (wrap64 ((a0_3.size : Int) - 1)) then (if (wrap64 ((a0_3.size : Int) - 1)) < (a0_3.size : Int) then (caulkerlaw15_empty.j0 k ((bt a0_3 (wrap64 ((a0_3.size : Int) - 1))) == 111) a0_0 a0_1 a0_2 a0_3) else (none)) else (none))
theorem caulkerlaw15_empty.mono_l : ∀ k, (∀ y0 y1 y2 y3 y4, LeO (caulkerlaw15_empty.j0 k y0 y1 y2 y3 y4) (caulkerlaw15_empty.j0 (k + 1) y0 y1 y2 y3 y4)) ∧ (∀ y0 y1 y2 y3 y4, LeO (caulkerlaw15_empty.j1 k y0 y1 y2 y3 y4) (caulkerlaw15_empty.j1 (k + 1) y0 y1 y2 y3 y4))
 | 0 => ⟨fun _ _ _ _ _ r h => by simp [caulkerlaw15_empty.j0] at h, fun _ _ _ _ _ r h => by simp [caulkerlaw15_empty.j1] at h⟩
 | k + 1 => by
  obtain ⟨ih0, ih1⟩ := caulkerlaw15_empty.mono_l k
  refine ⟨?_, ?_⟩
  ·intro y0 y1 y2 y3 y4
   unfold caulkerlaw15_empty.j0
   repeat' first
   | (with_reducible exact ih0 _ _ _ _ _)
   | (with_reducible exact ih1 _ _ _ _ _)
   | (with_reducible exact LeO.refl _)
   | (with_reducible exact LeO.none _)
   | (with_reducible refine LeO.ite ?_ ?_)
   | (with_reducible refine LeO.bind ?_ (fun _ => ?_))
   | exact ih0 _ _ _ _ _
   | exact ih1 _ _ _ _ _
   | exact LeO.none _
   | refine LeO.ite ?_ ?_
   | refine LeO.bind ?_ (fun _ => ?_)
  ·intro y0 y1 y2 y3 y4
   unfold caulkerlaw15_empty.j1
   repeat' first
   | (with_reducible exact ih0 _ _ _ _ _)
   | (with_reducible exact ih1 _ _ _ _ _)
   | (with_reducible exact LeO.refl _)
   | (with_reducible exact LeO.none _)
   | (with_reducible refine LeO.ite ?_ ?_)
   | (with_reducible refine LeO.bind ?_ (fun _ => ?_))
   | exact ih0 _ _ _ _ _
   | exact ih1 _ _ _ _ _
   | exact LeO.none _
   | refine LeO.ite ?_ ?_
   | refine LeO.bind ?_ (fun _ => ?_)
theorem caulkerlaw15_empty.mono : ∀ a0 a1 a2 a3 k, LeO (caulkerlaw15_empty.f k a0 a1 a2 a3) (caulkerlaw15_empty.f (k + 1) a0 a1 a2 a3) := by
 intro a0 a1 a2 a3 k
 obtain ⟨ih0, ih1⟩ := caulkerlaw15_empty.mono_l k
 unfold caulkerlaw15_empty.f
 repeat' first
   | (with_reducible exact ih0 _ _ _ _ _)
   | (with_reducible exact ih1 _ _ _ _ _)
   | (with_reducible exact LeO.refl _)
   | (with_reducible exact LeO.none _)
   | (with_reducible refine LeO.ite ?_ ?_)
   | (with_reducible refine LeO.bind ?_ (fun _ => ?_))
   | exact ih0 _ _ _ _ _
   | exact ih1 _ _ _ _ _
   | exact LeO.none _
   | refine LeO.ite ?_ ?_
   | refine LeO.bind ?_ (fun _ => ?_)
set_option maxHeartbeats 8000000 in
set_option maxRecDepth 100000 in
theorem caulkerlaw15_empty.calls (k : Nat) (a0_0 : Int) (a0_1 : ByteArray) (a0_2 : Int) (a0_3 : ByteArray) (r1 : Int) (r2 : Int) (r3 : ByteArray) (w : World) (h : caulkerlaw15_empty.f k a0_0 a0_1 a0_2 a0_3 = some (r1, r2, r3)) :
  Calls Try.prog 26 #[.agg #[.int .i64 a0_0, .string a0_1, .int .i64 a0_2, .string a0_3]] w fun e w' => e = .returned (.agg #[.int .i64 r1, .int .i64 r2, .string r3]) ∧ Below w.heap.size w w' := by
 have hu59 := Try.underlying59
 have hu61 := Try.underlying61
 have HB := Aside0.mk (Below.refl w.heap.size w)
 have H : (if a0_3.toList = ([] : List UInt8) then (caulkerlaw15_empty.j0 k false a0_0 a0_1 a0_2 a0_3) else (if 0 ≤ (wrap64 ((a0_3.size : Int) - 1)) then (if (wrap64 ((a0_3.size : Int) - 1)) < (a0_3.size : Int) then (caulkerlaw15_empty.j0 k ((bt a0_3 (wrap64 ((a0_3.size : Int) - 1))) == 111) a0_0 a0_1 a0_2 a0_3) else (none)) else (none))) = some (r1, r2, r3) := h
 clear h
 have HC2 := Aside0.mk H
 clear H
 go_enter Try.func26, Try.ntmps26
 go_upto_region 1 with (first | ((with_reducible refine gate_dst (N := 1) rfl ?_); refine box_event ?hg (N := 1) ?hd (cs := #[.int .i64 a0_0, .string a0_1, .int .i64 a0_2, .string a0_3]) (t := 59) ?hr ?_; (case hd => rfl); (case hg => rfl); (case hr => first | (go_simp; done) | (go_simp; rfl)); intro gb149 hg w3 hbox hb; have n0_ := pxs HB hb; have n1_ := Aside0.mk (hbox); have n2_ := Aside0.mk ((by rw [hg]; exact (below_size (pxb HB)) : w.heap.size ≤ gb149)); have n3_ := Aside0.mk ((by rw [hg]; exact (below_size (pxb HB)) : w.heap.size ≤ gb149)); clear HB; have HB := n0_; have BK149 := n1_; have GW149 := n2_; have GE149 := n3_; clear n0_ n1_ n2_ n3_; clear hb hbox hg) | ((with_reducible refine gate_dst (N := 2) rfl ?_); refine box_event ?hg (N := 2) ?hd (cs := #[.int .i64 0, .int .i64 0, .string (⟨#[]⟩ : ByteArray)]) (t := 61) ?hr ?_; (case hd => rfl); (case hg => rfl); (case hr => first | (go_simp; done) | (go_simp; rfl)); intro gb150 hg w4 hbox hb; have n0_ := pxk BK149 hb; have n1_ := pxs HB hb; have n2_ := Aside0.mk (hbox); have n3_ := Aside0.mk ((by rw [hg]; exact (below_size (pxb HB)) : w.heap.size ≤ gb150)); have n4_ := Aside0.mk ((by rw [hg]; exact (below_size (pxb HB)) : w.heap.size ≤ gb150)); have n5_ := Aside0.mk ((by rw [hg]; exact Nat.ne_of_lt (blk_lt (g := gb149) (o := .cells #[.int .i64 a0_0, .string a0_1, .int .i64 a0_2, .string a0_3] 59 (0, 0)) (pxq BK149)) : gb149 ≠ gb150)); have n6_ := Aside0.mk ((by rw [hg]; exact Nat.ne_of_gt (blk_lt (g := gb149) (o := .cells #[.int .i64 a0_0, .string a0_1, .int .i64 a0_2, .string a0_3] 59 (0, 0)) (pxq BK149)) : gb150 ≠ gb149)); clear BK149; clear HB; have BK149 := n0_; have HB := n1_; have BK150 := n2_; have GW150 := n3_; have GE150 := n4_; have NB149_150 := n5_; have NB150_149 := n6_; clear n0_ n1_ n2_ n3_ n4_ n5_ n6_; clear hb hbox hg))
 (try simp only [Act.put, List.setIfInBounds_toArray, List.set_cons_zero, List.set_cons_succ])
 go_cut [15] (fun v15 wc => ∃ (kq : Nat) (x15_1 : Bool), v15 = .bool x15_1 ∧ Aside0 (caulkerlaw15_empty.j0 kq x15_1 a0_0 a0_1 a0_2 a0_3 = some (r1, r2, r3)) ∧ Aside0 (kq ≤ k) ∧ Aside0 (wc.heap[gb149]? = some (.cells #[.int .i64 a0_0, .string a0_1, .int .i64 a0_2, .string a0_3] 59 (0, 0))) ∧ Aside0 (wc.heap[gb150]? = some (.cells #[.int .i64 0, .int .i64 0, .string (⟨#[]⟩ : ByteArray)] 61 (0, 0))) ∧ Aside0 (Below w.heap.size w wc))
 case first =>
  have H := HC2.out
  clear HC2
  by_cases c5 : a0_3.toList = ([] : List UInt8)
  ·rw [if_pos c5] at H
   have c5b0 : (a0_3.toList == ([] : List UInt8)) = true := beq_iff_eq.mpr c5
   (try (have c5b0e : (a0_3.toList.isEmpty) = true := by simpa only [pxbeq, pxbne] using c5b0))
   have c5b1 : (a0_3.toList != ([] : List UInt8)) = false := bne_eq_false_iff_eq.mpr c5
   (try (have c5b1e : ((!a0_3.toList.isEmpty)) = false := by simpa only [pxbeq, pxbne] using c5b1))
   clear c5
   (first | rw [c5b0] | (simp only [i64_w, i32_w]; rw [c5b0]) | skip)
   have H' := Aside0.mk H
   clear H
   have hnb6 := NB149_150.out
   have hnc6 := NB150_149.out
   have hcz7_0 : w4.cell? ⟨gb149, 0, none⟩ = some (.int .i64 a0_0) := (blk_cell BK149.out 0).trans rfl
   have hcz7_1 : w4.cell? ⟨gb149, 1, none⟩ = some (.string a0_1) := (blk_cell BK149.out 1).trans rfl
   have hcz7_2 : w4.cell? ⟨gb149, 2, none⟩ = some (.int .i64 a0_2) := (blk_cell BK149.out 2).trans rfl
   have hcz7_3 : w4.cell? ⟨gb149, 3, none⟩ = some (.string a0_3) := (blk_cell BK149.out 3).trans rfl
   have hfz7_0 := blk_frozen BK149.out 0
   have hfz7_1 := blk_frozen BK149.out 1
   have hfz7_2 := blk_frozen BK149.out 2
   have hfz7_3 := blk_frozen BK149.out 3
   go_wp2
   go_meet
   case rel => exact ⟨_, (false), (by first | rfl | (simp; done) | (simp [*]; done)), H', ⟨by first | omega | exact Nat.le_refl _⟩, ⟨pxq BK149⟩, ⟨pxq BK150⟩, ⟨pxb HB⟩⟩
  ·rw [if_neg c5] at H
   have c5b0 : (a0_3.toList == ([] : List UInt8)) = false := beq_eq_false_iff_ne.mpr c5
   (try (have c5b0e : (a0_3.toList.isEmpty) = false := by simpa only [pxbeq, pxbne] using c5b0))
   have c5b1 : (a0_3.toList != ([] : List UInt8)) = true := bne_iff_ne.mpr c5
   (try (have c5b1e : ((!a0_3.toList.isEmpty)) = true := by simpa only [pxbeq, pxbne] using c5b1))
   (first | rw [c5b0] | (simp only [i64_w, i32_w]; rw [c5b0]) | skip)
   obtain ⟨ji8, hji8⟩ : ∃ j_ : Int, (wrap64 ((a0_3.size : Int) - 1)) = j_ := ⟨_, rfl⟩
   replace H : (if 0 ≤ (ji8) then (if (ji8) < (a0_3.size : Int) then (caulkerlaw15_empty.j0 k ((bt a0_3 (ji8)) == 111) a0_0 a0_1 a0_2 a0_3) else (none)) else (none)) = some (r1, r2, r3) := by first | (rw [hji8] at H; exact H) | (simp only [hji8] at H ⊢; exact H)
   have hji8w : (IntKind.i64.wrap ((a0_3.size : Int) - 1)) = ji8 := (i64_w _).trans hji8
   by_cases c9 : 0 ≤ (ji8)
   ·rw [if_pos c9] at H
    have c9b0 : decide (0 ≤ (ji8)) = true := decide_eq_true c9
    clear c9
    by_cases c10 : (ji8) < (a0_3.size : Int)
    ·rw [if_pos c10] at H
     have c10b0 : decide ((ji8) < (a0_3.size : Int)) = true := decide_eq_true c10
     clear c10
     have H' := Aside0.mk H
     clear H
     have hnb12 := NB149_150.out
     have hnc12 := NB150_149.out
     have hcz13_0 : w4.cell? ⟨gb149, 0, none⟩ = some (.int .i64 a0_0) := (blk_cell BK149.out 0).trans rfl
     have hcz13_1 : w4.cell? ⟨gb149, 1, none⟩ = some (.string a0_1) := (blk_cell BK149.out 1).trans rfl
     have hcz13_2 : w4.cell? ⟨gb149, 2, none⟩ = some (.int .i64 a0_2) := (blk_cell BK149.out 2).trans rfl
     have hcz13_3 : w4.cell? ⟨gb149, 3, none⟩ = some (.string a0_3) := (blk_cell BK149.out 3).trans rfl
     have hfz13_0 := blk_frozen BK149.out 0
     have hfz13_1 := blk_frozen BK149.out 1
     have hfz13_2 := blk_frozen BK149.out 2
     have hfz13_3 := blk_frozen BK149.out 3
     have p11 : 0 ≤ ((ji8) : Int) := of_decide_eq_true (by first | (with_reducible assumption) | assumption)
     have q11 : (ji8) < (a0_3.size : Int) := of_decide_eq_true (by first | (with_reducible assumption) | assumption)
     have hx11 := bt_at a0_3 (ji8)
     replace p11 := eq_true p11
     replace q11 := eq_true q11
     go_wp2
     go_meet
     case rel => exact ⟨_, (((bt a0_3 (ji8)) == 111)), (by first | rfl | (simp; done) | (simp only [← hji8] <;> (first | rfl | simp)) | (simp [*]; done)), H', ⟨by first | omega | exact Nat.le_refl _⟩, ⟨pxq BK149⟩, ⟨pxq BK150⟩, ⟨pxb HB⟩⟩
    ·rw [if_neg c10] at H
     exact absurd H (by simp)
   ·rw [if_neg c9] at H
    exact absurd H (by simp)
 case rest =>
  clear HC2
  try clear c1
  try clear p1
  try clear q1
  try clear hx1
  try clear c2
  try clear p2
  try clear c5
  try clear c5b0
  try clear c5b1
  try clear c6
  try clear p6
  try clear c9
  try clear c9b0
  try clear c10
  try clear c10b0
  try clear p11
  try clear q11
  try clear hx11
  try clear c12
  try clear hcz13_0
  try clear hcz13_1
  try clear hcz13_2
  try clear hcz13_3
  try clear hcz7_0
  try clear hcz7_1
  try clear hcz7_2
  try clear hcz7_3
  try clear hfz13_0
  try clear hfz13_1
  try clear hfz13_2
  try clear hfz13_3
  try clear hfz7_0
  try clear hfz7_1
  try clear hfz7_2
  try clear hfz7_3
  try clear p11
  try clear q11
  obtain ⟨kq, x15_1, rfl, HA, HJ1, BK149, BK150, HB⟩ := hcut
  cases kq with
  | zero => exact absurd HA.out (by simp [caulkerlaw15_empty.j0])
  | succ kj1 =>
   have H := HA.out
   clear HA
   simp only [caulkerlaw15_empty.j0] at H
   by_cases c14 : x15_1 = true
   ·subst c14
    have H1 : (some (8, 0, (⟨#[]⟩ : ByteArray))) = some (r1, r2, r3) := by rw [if_pos rfl] at H; exact H
    clear H
    have H := H1
    clear H1
    simp only [Option.some.injEq, Prod.mk.injEq] at H
    obtain ⟨rfl, rfl, rfl⟩ := H
    have hnb15 := NB150_149.out
    have hnc15 := NB149_150.out
    have hcz16_0 : wc.cell? ⟨gb150, 0, none⟩ = some (.int .i64 0) := (blk_cell BK150.out 0).trans rfl
    have hcz16_1 : wc.cell? ⟨gb150, 1, none⟩ = some (.int .i64 0) := (blk_cell BK150.out 1).trans rfl
    have hcz16_2 : wc.cell? ⟨gb150, 2, none⟩ = some (.string (⟨#[]⟩ : ByteArray)) := (blk_cell BK150.out 2).trans rfl
    have hfz16_0 := blk_frozen BK150.out 0
    have hfz16_1 := blk_frozen BK150.out 1
    have hfz16_2 := blk_frozen BK150.out 2
    go_wp2
    refine bodyPost_ret (results_cell_row rfl _ _ gb150 61 #[.int .i64 8, .int .i64 0, .string (⟨#[]⟩ : ByteArray)] (0, 0) _ rfl (by (with_reducible repeat (first | refine blk_drewN ?_ _ | refine blk_drew ?_ | refine blk_alloc ?_ _)); refine blk_put (cs := #[.int .i64 8, .int .i64 0, .string (⟨#[]⟩ : ByteArray)]) ?_ 2 _ rfl; (with_reducible repeat (first | refine blk_drewN ?_ _ | refine blk_drew ?_ | refine blk_alloc ?_ _)); refine blk_put (cs := #[.int .i64 8, .int .i64 0, .string (⟨#[]⟩ : ByteArray)]) ?_ 1 _ rfl; (with_reducible repeat (first | refine blk_drewN ?_ _ | refine blk_drew ?_ | refine blk_alloc ?_ _)); refine blk_put (cs := #[.int .i64 0, .int .i64 0, .string (⟨#[]⟩ : ByteArray)]) ?_ 0 _ rfl; (with_reducible repeat (first | refine blk_drewN ?_ _ | refine blk_drew ?_ | refine blk_alloc ?_ _)); exact BK150.out) Try.underlying61 rfl (by kernel_rfl)) rfl ?_
    exact ⟨by first | rfl | (simp [errW_none, errW_some] <;> rfl) | (simp [*, errW_none, errW_some] <;> rfl) | (simp [*, pxbeq, pxbne, errW_none, errW_some]; done), pxb HB⟩
   ·replace c14 := Bool.eq_false_iff.mpr c14
    subst c14
    have H1 : (if a0_2 > 0 then (caulkerlaw15_empty.j1 kj1 true a0_0 a0_1 a0_2 a0_3) else (if a0_0 = 5 then (caulkerlaw15_empty.j1 kj1 true a0_0 a0_1 a0_2 a0_3) else (if a0_0 = 7 then (caulkerlaw15_empty.j1 kj1 true a0_0 a0_1 a0_2 a0_3) else (caulkerlaw15_empty.j1 kj1 (a0_0 == 8) a0_0 a0_1 a0_2 a0_3)))) = some (r1, r2, r3) := by rw [if_neg (show ¬ (false = true) by decide)] at H; exact H
    clear H
    have H := H1
    clear H1
    have HC17 := Aside0.mk H
    clear H
    go_upto_region 3 with (fail)
    go_cut [34] (fun v34 wc => ∃ (kq : Nat) (x34_16 : Bool), v34 = .bool x34_16 ∧ Aside0 (caulkerlaw15_empty.j1 kq x34_16 a0_0 a0_1 a0_2 a0_3 = some (r1, r2, r3)) ∧ Aside0 (kq ≤ kj1) ∧ Aside0 (wc.heap[gb149]? = some (.cells #[.int .i64 a0_0, .string a0_1, .int .i64 a0_2, .string a0_3] 59 (0, 0))) ∧ Aside0 (wc.heap[gb150]? = some (.cells #[.int .i64 0, .int .i64 0, .string (⟨#[]⟩ : ByteArray)] 61 (0, 0))) ∧ Aside0 (Below w.heap.size w wc))
    case first =>
     have H := HC17.out
     clear HC17
     by_cases c18 : a0_2 > 0
     ·rw [if_pos c18] at H
      have c18b0 : decide (0 < a0_2) = true := decide_eq_true c18
      clear c18
      (first | rw [c18b0] | (simp only [i64_w, i32_w]; rw [c18b0]) | skip)
      have H' := Aside0.mk H
      clear H
      have hnb19 := NB149_150.out
      have hnc19 := NB150_149.out
      have hcz20_0 : wc.cell? ⟨gb149, 0, none⟩ = some (.int .i64 a0_0) := (blk_cell BK149.out 0).trans rfl
      have hcz20_1 : wc.cell? ⟨gb149, 1, none⟩ = some (.string a0_1) := (blk_cell BK149.out 1).trans rfl
      have hcz20_2 : wc.cell? ⟨gb149, 2, none⟩ = some (.int .i64 a0_2) := (blk_cell BK149.out 2).trans rfl
      have hcz20_3 : wc.cell? ⟨gb149, 3, none⟩ = some (.string a0_3) := (blk_cell BK149.out 3).trans rfl
      have hfz20_0 := blk_frozen BK149.out 0
      have hfz20_1 := blk_frozen BK149.out 1
      have hfz20_2 := blk_frozen BK149.out 2
      have hfz20_3 := blk_frozen BK149.out 3
      go_wp2
      go_meet
      case rel => exact ⟨_, (true), (by first | rfl | (simp; done) | (simp [*]; done)), H', ⟨by have := HJ1.out; first | omega | exact Nat.le_refl _⟩, ⟨pxq BK149⟩, ⟨pxq BK150⟩, ⟨pxb HB⟩⟩
     ·rw [if_neg c18] at H
      have c18b0 : decide (0 < a0_2) = false := decide_eq_false c18
      clear c18
      (first | rw [c18b0] | (simp only [i64_w, i32_w]; rw [c18b0]) | skip)
      by_cases c21 : a0_0 = 5
      ·rw [if_pos c21] at H
       have c21b0 : (a0_0 == 5) = true := beq_iff_eq.mpr c21
       have c21b1 : (a0_0 != 5) = false := bne_eq_false_iff_eq.mpr c21
       clear c21
       have H' := Aside0.mk H
       clear H
       have hnb22 := NB149_150.out
       have hnc22 := NB150_149.out
       have hcz23_0 : wc.cell? ⟨gb149, 0, none⟩ = some (.int .i64 a0_0) := (blk_cell BK149.out 0).trans rfl
       have hcz23_1 : wc.cell? ⟨gb149, 1, none⟩ = some (.string a0_1) := (blk_cell BK149.out 1).trans rfl
       have hcz23_2 : wc.cell? ⟨gb149, 2, none⟩ = some (.int .i64 a0_2) := (blk_cell BK149.out 2).trans rfl
       have hcz23_3 : wc.cell? ⟨gb149, 3, none⟩ = some (.string a0_3) := (blk_cell BK149.out 3).trans rfl
       have hfz23_0 := blk_frozen BK149.out 0
       have hfz23_1 := blk_frozen BK149.out 1
       have hfz23_2 := blk_frozen BK149.out 2
       have hfz23_3 := blk_frozen BK149.out 3
       go_wp2
       go_meet
       case rel => exact ⟨_, (true), (by first | rfl | (simp; done) | (simp [*]; done)), H', ⟨by have := HJ1.out; first | omega | exact Nat.le_refl _⟩, ⟨pxq BK149⟩, ⟨pxq BK150⟩, ⟨pxb HB⟩⟩
      ·rw [if_neg c21] at H
       have c21b0 : (a0_0 == 5) = false := beq_eq_false_iff_ne.mpr c21
       have c21b1 : (a0_0 != 5) = true := bne_iff_ne.mpr c21
       by_cases c24 : a0_0 = 7
       ·rw [if_pos c24] at H
        have c24b0 : (a0_0 == 7) = true := beq_iff_eq.mpr c24
        have c24b1 : (a0_0 != 7) = false := bne_eq_false_iff_eq.mpr c24
        clear c24
        have H' := Aside0.mk H
        clear H
        have hnb25 := NB149_150.out
        have hnc25 := NB150_149.out
        have hcz26_0 : wc.cell? ⟨gb149, 0, none⟩ = some (.int .i64 a0_0) := (blk_cell BK149.out 0).trans rfl
        have hcz26_1 : wc.cell? ⟨gb149, 1, none⟩ = some (.string a0_1) := (blk_cell BK149.out 1).trans rfl
        have hcz26_2 : wc.cell? ⟨gb149, 2, none⟩ = some (.int .i64 a0_2) := (blk_cell BK149.out 2).trans rfl
        have hcz26_3 : wc.cell? ⟨gb149, 3, none⟩ = some (.string a0_3) := (blk_cell BK149.out 3).trans rfl
        have hfz26_0 := blk_frozen BK149.out 0
        have hfz26_1 := blk_frozen BK149.out 1
        have hfz26_2 := blk_frozen BK149.out 2
        have hfz26_3 := blk_frozen BK149.out 3
        go_wp2
        go_meet
        case rel => exact ⟨_, (true), (by first | rfl | (simp; done) | (simp [*]; done)), H', ⟨by have := HJ1.out; first | omega | exact Nat.le_refl _⟩, ⟨pxq BK149⟩, ⟨pxq BK150⟩, ⟨pxb HB⟩⟩
       ·rw [if_neg c24] at H
        have c24b0 : (a0_0 == 7) = false := beq_eq_false_iff_ne.mpr c24
        have c24b1 : (a0_0 != 7) = true := bne_iff_ne.mpr c24
        have H' := Aside0.mk H
        clear H
        have hnb27 := NB149_150.out
        have hnc27 := NB150_149.out
        have hcz28_0 : wc.cell? ⟨gb149, 0, none⟩ = some (.int .i64 a0_0) := (blk_cell BK149.out 0).trans rfl
        have hcz28_1 : wc.cell? ⟨gb149, 1, none⟩ = some (.string a0_1) := (blk_cell BK149.out 1).trans rfl
        have hcz28_2 : wc.cell? ⟨gb149, 2, none⟩ = some (.int .i64 a0_2) := (blk_cell BK149.out 2).trans rfl
        have hcz28_3 : wc.cell? ⟨gb149, 3, none⟩ = some (.string a0_3) := (blk_cell BK149.out 3).trans rfl
        have hfz28_0 := blk_frozen BK149.out 0
        have hfz28_1 := blk_frozen BK149.out 1
        have hfz28_2 := blk_frozen BK149.out 2
        have hfz28_3 := blk_frozen BK149.out 3
        go_wp2
        go_meet
        case rel => exact ⟨_, ((a0_0 == 8)), (by first | rfl | (simp; done) | (simp [*]; done)), H', ⟨by have := HJ1.out; first | omega | exact Nat.le_refl _⟩, ⟨pxq BK149⟩, ⟨pxq BK150⟩, ⟨pxb HB⟩⟩
    case rest =>
     clear HC17
     try clear c1
     try clear p1
     try clear q1
     try clear hx1
     try clear c2
     try clear p2
     try clear c5
     try clear c5b0
     try clear c5b1
     try clear c6
     try clear p6
     try clear c9
     try clear c9b0
     try clear c10
     try clear c10b0
     try clear p11
     try clear q11
     try clear hx11
     try clear c12
     try clear c14
     try clear c15
     try clear c18
     try clear c18b0
     try clear c19
     try clear c21
     try clear c21b0
     try clear c21b1
     try clear c22
     try clear c24
     try clear c24b0
     try clear c24b1
     try clear c25
     try clear c26
     try clear c27
     try clear hcz13_0
     try clear hcz13_1
     try clear hcz13_2
     try clear hcz13_3
     try clear hcz16_0
     try clear hcz16_1
     try clear hcz16_2
     try clear hcz20_0
     try clear hcz20_1
     try clear hcz20_2
     try clear hcz20_3
     try clear hcz23_0
     try clear hcz23_1
     try clear hcz23_2
     try clear hcz23_3
     try clear hcz26_0
     try clear hcz26_1
     try clear hcz26_2
     try clear hcz26_3
     try clear hcz28_0
     try clear hcz28_1
     try clear hcz28_2
     try clear hcz28_3
     try clear hcz7_0
     try clear hcz7_1
     try clear hcz7_2
     try clear hcz7_3
     try clear hfz13_0
     try clear hfz13_1
     try clear hfz13_2
     try clear hfz13_3
     try clear hfz16_0
     try clear hfz16_1
     try clear hfz16_2
     try clear hfz20_0
     try clear hfz20_1
     try clear hfz20_2
     try clear hfz20_3
     try clear hfz23_0
     try clear hfz23_1
     try clear hfz23_2
     try clear hfz23_3
     try clear hfz26_0
     try clear hfz26_1
     try clear hfz26_2
     try clear hfz26_3
     try clear hfz28_0
     try clear hfz28_1
     try clear hfz28_2
     try clear hfz28_3
     try clear hfz7_0
     try clear hfz7_1
     try clear hfz7_2
     try clear hfz7_3
     try clear p1
     try clear p11
     try clear p2
     try clear p6
     try clear q1
     try clear q11
     obtain ⟨kq, x34_16, rfl, HA, HJ16, BK149, BK150, HB⟩ := hcut
     cases kq with
     | zero => exact absurd HA.out (by simp [caulkerlaw15_empty.j1])
     | succ kj16 =>
      have H := HA.out
      clear HA
      simp only [caulkerlaw15_empty.j1] at H
      by_cases c29 : x34_16 = true
      ·subst c29
       have H1 : (some (7, 0, (⟨#[]⟩ : ByteArray))) = some (r1, r2, r3) := by rw [if_pos rfl] at H; exact H
       clear H
       have H := H1
       clear H1
       simp only [Option.some.injEq, Prod.mk.injEq] at H
       obtain ⟨rfl, rfl, rfl⟩ := H
       have hnb30 := NB150_149.out
       have hnc30 := NB149_150.out
       have hcz31_0 : wc.cell? ⟨gb150, 0, none⟩ = some (.int .i64 0) := (blk_cell BK150.out 0).trans rfl
       have hcz31_1 : wc.cell? ⟨gb150, 1, none⟩ = some (.int .i64 0) := (blk_cell BK150.out 1).trans rfl
       have hcz31_2 : wc.cell? ⟨gb150, 2, none⟩ = some (.string (⟨#[]⟩ : ByteArray)) := (blk_cell BK150.out 2).trans rfl
       have hfz31_0 := blk_frozen BK150.out 0
       have hfz31_1 := blk_frozen BK150.out 1
       have hfz31_2 := blk_frozen BK150.out 2
       go_wp2
       refine bodyPost_ret (results_cell_row rfl _ _ gb150 61 #[.int .i64 7, .int .i64 0, .string (⟨#[]⟩ : ByteArray)] (0, 0) _ rfl (by (with_reducible repeat (first | refine blk_drewN ?_ _ | refine blk_drew ?_ | refine blk_alloc ?_ _)); refine blk_put (cs := #[.int .i64 7, .int .i64 0, .string (⟨#[]⟩ : ByteArray)]) ?_ 2 _ rfl; (with_reducible repeat (first | refine blk_drewN ?_ _ | refine blk_drew ?_ | refine blk_alloc ?_ _)); refine blk_put (cs := #[.int .i64 7, .int .i64 0, .string (⟨#[]⟩ : ByteArray)]) ?_ 1 _ rfl; (with_reducible repeat (first | refine blk_drewN ?_ _ | refine blk_drew ?_ | refine blk_alloc ?_ _)); refine blk_put (cs := #[.int .i64 0, .int .i64 0, .string (⟨#[]⟩ : ByteArray)]) ?_ 0 _ rfl; (with_reducible repeat (first | refine blk_drewN ?_ _ | refine blk_drew ?_ | refine blk_alloc ?_ _)); exact BK150.out) Try.underlying61 rfl (by kernel_rfl)) rfl ?_
       exact ⟨by first | rfl | (simp [errW_none, errW_some] <;> rfl) | (simp [*, errW_none, errW_some] <;> rfl) | (simp [*, pxbeq, pxbne, errW_none, errW_some]; done), pxb HB⟩
      ·replace c29 := Bool.eq_false_iff.mpr c29
       subst c29
       have H1 : (if a0_0 = 0 then (some (0, 0, (⟨#[]⟩ : ByteArray))) else (if a0_0 = 6 then (some (0, 0, (⟨#[]⟩ : ByteArray))) else (some (a0_0, 0, (⟨#[]⟩ : ByteArray))))) = some (r1, r2, r3) := by rw [if_neg (show ¬ (false = true) by decide)] at H; exact H
       clear H
       have H := H1
       clear H1
       by_cases c32 : a0_0 = 0
       ·rw [if_pos c32] at H
        have c32b0 : (a0_0 == 0) = true := beq_iff_eq.mpr c32
        have c32b1 : (a0_0 != 0) = false := bne_eq_false_iff_eq.mpr c32
        clear c32
        simp only [Option.some.injEq, Prod.mk.injEq] at H
        obtain ⟨rfl, rfl, rfl⟩ := H
        have hnb33 := NB149_150.out
        have hnc33 := NB150_149.out
        have hcz34_0 : wc.cell? ⟨gb149, 0, none⟩ = some (.int .i64 a0_0) := (blk_cell BK149.out 0).trans rfl
        have hcz34_1 : wc.cell? ⟨gb149, 1, none⟩ = some (.string a0_1) := (blk_cell BK149.out 1).trans rfl
        have hcz34_2 : wc.cell? ⟨gb149, 2, none⟩ = some (.int .i64 a0_2) := (blk_cell BK149.out 2).trans rfl
        have hcz34_3 : wc.cell? ⟨gb149, 3, none⟩ = some (.string a0_3) := (blk_cell BK149.out 3).trans rfl
        have hfz34_0 := blk_frozen BK149.out 0
        have hfz34_1 := blk_frozen BK149.out 1
        have hfz34_2 := blk_frozen BK149.out 2
        have hfz34_3 := blk_frozen BK149.out 3
        have hcz35_0 : wc.cell? ⟨gb150, 0, none⟩ = some (.int .i64 0) := (blk_cell BK150.out 0).trans rfl
        have hcz35_1 : wc.cell? ⟨gb150, 1, none⟩ = some (.int .i64 0) := (blk_cell BK150.out 1).trans rfl
        have hcz35_2 : wc.cell? ⟨gb150, 2, none⟩ = some (.string (⟨#[]⟩ : ByteArray)) := (blk_cell BK150.out 2).trans rfl
        have hfz35_0 := blk_frozen BK150.out 0
        have hfz35_1 := blk_frozen BK150.out 1
        have hfz35_2 := blk_frozen BK150.out 2
        go_wp2
        refine bodyPost_ret (results_cell_row rfl _ _ gb150 61 #[.int .i64 0, .int .i64 0, .string (⟨#[]⟩ : ByteArray)] (0, 0) _ rfl (by (with_reducible repeat (first | refine blk_drewN ?_ _ | refine blk_drew ?_ | refine blk_alloc ?_ _)); refine blk_put (cs := #[.int .i64 0, .int .i64 0, .string (⟨#[]⟩ : ByteArray)]) ?_ 2 _ rfl; (with_reducible repeat (first | refine blk_drewN ?_ _ | refine blk_drew ?_ | refine blk_alloc ?_ _)); refine blk_put (cs := #[.int .i64 0, .int .i64 0, .string (⟨#[]⟩ : ByteArray)]) ?_ 1 _ rfl; (with_reducible repeat (first | refine blk_drewN ?_ _ | refine blk_drew ?_ | refine blk_alloc ?_ _)); refine blk_put (cs := #[.int .i64 0, .int .i64 0, .string (⟨#[]⟩ : ByteArray)]) ?_ 0 _ rfl; (with_reducible repeat (first | refine blk_drewN ?_ _ | refine blk_drew ?_ | refine blk_alloc ?_ _)); exact BK150.out) Try.underlying61 rfl (by kernel_rfl)) rfl ?_
        exact ⟨by first | rfl | (simp [errW_none, errW_some] <;> rfl) | (simp [*, errW_none, errW_some] <;> rfl) | (simp [*, pxbeq, pxbne, errW_none, errW_some]; done), pxb HB⟩
       ·rw [if_neg c32] at H
        have c32b0 : (a0_0 == 0) = false := beq_eq_false_iff_ne.mpr c32
        have c32b1 : (a0_0 != 0) = true := bne_iff_ne.mpr c32
        by_cases c36 : a0_0 = 6
        ·rw [if_pos c36] at H
         have c36b0 : (a0_0 == 6) = true := beq_iff_eq.mpr c36
         have c36b1 : (a0_0 != 6) = false := bne_eq_false_iff_eq.mpr c36
         clear c36
         simp only [Option.some.injEq, Prod.mk.injEq] at H
         obtain ⟨rfl, rfl, rfl⟩ := H
         have hnb37 := NB149_150.out
         have hnc37 := NB150_149.out
         have hcz38_0 : wc.cell? ⟨gb149, 0, none⟩ = some (.int .i64 a0_0) := (blk_cell BK149.out 0).trans rfl
         have hcz38_1 : wc.cell? ⟨gb149, 1, none⟩ = some (.string a0_1) := (blk_cell BK149.out 1).trans rfl
         have hcz38_2 : wc.cell? ⟨gb149, 2, none⟩ = some (.int .i64 a0_2) := (blk_cell BK149.out 2).trans rfl
         have hcz38_3 : wc.cell? ⟨gb149, 3, none⟩ = some (.string a0_3) := (blk_cell BK149.out 3).trans rfl
         have hfz38_0 := blk_frozen BK149.out 0
         have hfz38_1 := blk_frozen BK149.out 1
         have hfz38_2 := blk_frozen BK149.out 2
         have hfz38_3 := blk_frozen BK149.out 3
         have hcz39_0 : wc.cell? ⟨gb150, 0, none⟩ = some (.int .i64 0) := (blk_cell BK150.out 0).trans rfl
         have hcz39_1 : wc.cell? ⟨gb150, 1, none⟩ = some (.int .i64 0) := (blk_cell BK150.out 1).trans rfl
         have hcz39_2 : wc.cell? ⟨gb150, 2, none⟩ = some (.string (⟨#[]⟩ : ByteArray)) := (blk_cell BK150.out 2).trans rfl
         have hfz39_0 := blk_frozen BK150.out 0
         have hfz39_1 := blk_frozen BK150.out 1
         have hfz39_2 := blk_frozen BK150.out 2
         go_wp2
         refine bodyPost_ret (results_cell_row rfl _ _ gb150 61 #[.int .i64 0, .int .i64 0, .string (⟨#[]⟩ : ByteArray)] (0, 0) _ rfl (by (with_reducible repeat (first | refine blk_drewN ?_ _ | refine blk_drew ?_ | refine blk_alloc ?_ _)); refine blk_put (cs := #[.int .i64 0, .int .i64 0, .string (⟨#[]⟩ : ByteArray)]) ?_ 2 _ rfl; (with_reducible repeat (first | refine blk_drewN ?_ _ | refine blk_drew ?_ | refine blk_alloc ?_ _)); refine blk_put (cs := #[.int .i64 0, .int .i64 0, .string (⟨#[]⟩ : ByteArray)]) ?_ 1 _ rfl; (with_reducible repeat (first | refine blk_drewN ?_ _ | refine blk_drew ?_ | refine blk_alloc ?_ _)); refine blk_put (cs := #[.int .i64 0, .int .i64 0, .string (⟨#[]⟩ : ByteArray)]) ?_ 0 _ rfl; (with_reducible repeat (first | refine blk_drewN ?_ _ | refine blk_drew ?_ | refine blk_alloc ?_ _)); exact BK150.out) Try.underlying61 rfl (by kernel_rfl)) rfl ?_
         exact ⟨by first | rfl | (simp [errW_none, errW_some] <;> rfl) | (simp [*, errW_none, errW_some] <;> rfl) | (simp [*, pxbeq, pxbne, errW_none, errW_some]; done), pxb HB⟩
        ·rw [if_neg c36] at H
         have c36b0 : (a0_0 == 6) = false := beq_eq_false_iff_ne.mpr c36
         have c36b1 : (a0_0 != 6) = true := bne_iff_ne.mpr c36
         simp only [Option.some.injEq, Prod.mk.injEq] at H
         obtain ⟨rfl, rfl, rfl⟩ := H
         have hnb40 := NB149_150.out
         have hnc40 := NB150_149.out
         have hcz41_0 : wc.cell? ⟨gb149, 0, none⟩ = some (.int .i64 a0_0) := (blk_cell BK149.out 0).trans rfl
         have hcz41_1 : wc.cell? ⟨gb149, 1, none⟩ = some (.string a0_1) := (blk_cell BK149.out 1).trans rfl
         have hcz41_2 : wc.cell? ⟨gb149, 2, none⟩ = some (.int .i64 a0_2) := (blk_cell BK149.out 2).trans rfl
         have hcz41_3 : wc.cell? ⟨gb149, 3, none⟩ = some (.string a0_3) := (blk_cell BK149.out 3).trans rfl
         have hfz41_0 := blk_frozen BK149.out 0
         have hfz41_1 := blk_frozen BK149.out 1
         have hfz41_2 := blk_frozen BK149.out 2
         have hfz41_3 := blk_frozen BK149.out 3
         have hcz42_0 : wc.cell? ⟨gb150, 0, none⟩ = some (.int .i64 0) := (blk_cell BK150.out 0).trans rfl
         have hcz42_1 : wc.cell? ⟨gb150, 1, none⟩ = some (.int .i64 0) := (blk_cell BK150.out 1).trans rfl
         have hcz42_2 : wc.cell? ⟨gb150, 2, none⟩ = some (.string (⟨#[]⟩ : ByteArray)) := (blk_cell BK150.out 2).trans rfl
         have hfz42_0 := blk_frozen BK150.out 0
         have hfz42_1 := blk_frozen BK150.out 1
         have hfz42_2 := blk_frozen BK150.out 2
         go_wp2
         refine bodyPost_ret (results_cell_row rfl _ _ gb150 61 #[.int .i64 a0_0, .int .i64 0, .string (⟨#[]⟩ : ByteArray)] (0, 0) _ rfl (by (with_reducible repeat (first | refine blk_drewN ?_ _ | refine blk_drew ?_ | refine blk_alloc ?_ _)); refine blk_put (cs := #[.int .i64 a0_0, .int .i64 0, .string (⟨#[]⟩ : ByteArray)]) ?_ 2 _ rfl; (with_reducible repeat (first | refine blk_drewN ?_ _ | refine blk_drew ?_ | refine blk_alloc ?_ _)); refine blk_put (cs := #[.int .i64 a0_0, .int .i64 0, .string (⟨#[]⟩ : ByteArray)]) ?_ 1 _ rfl; (with_reducible repeat (first | refine blk_drewN ?_ _ | refine blk_drew ?_ | refine blk_alloc ?_ _)); refine blk_put (cs := #[.int .i64 0, .int .i64 0, .string (⟨#[]⟩ : ByteArray)]) ?_ 0 _ rfl; (with_reducible repeat (first | refine blk_drewN ?_ _ | refine blk_drew ?_ | refine blk_alloc ?_ _)); exact BK150.out) Try.underlying61 rfl (by kernel_rfl)) rfl ?_
         exact ⟨by first | rfl | (simp [errW_none, errW_some] <;> rfl) | (simp [*, errW_none, errW_some] <;> rfl) | (simp [*, pxbeq, pxbne, errW_none, errW_some]; done), pxb HB⟩

end Go.Proofs.Ytefgfnhhoidbdaa.H
