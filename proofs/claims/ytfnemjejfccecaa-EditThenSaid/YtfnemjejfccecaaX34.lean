/- What the program's functions answer, as Lean functions, and that each call does just that; no condition. Written by a program (px.py) out of the translation. -/
import Derived.Test.YtfnemjejfccecaaX0
namespace Go.Proofs.Ytfnemjejfccecaa.X
open Go.RowKit Go.Proofs.YtfnemjejfccecaaW.PrintWords Go.Proofs.YtfnemjejfccecaaW.PrintLast Go.Proofs.YtfnemjejfccecaaW.PrintMore
attribute [local go_sem] max2_int min2_int max_two min_two max_three min_three max_four min_four   -- for this text's walks alone
set_option linter.unusedVariables false
set_option linter.unusedSimpArgs false

/-! ### caulkerref03_Check: function 34 -/
mutual
def caulkerref03_Check.l0 : Nat → Int → List (S60) → Int → Option (Int)
 | 0, _, _, _ => none
 | k + 1, x0, x1, x5 => if x5 < (x1.length : Int) then (if 0 ≤ x5 then (if (((rd_T60 x1 x5).f1).size : Int) > 65536 then (some 2) else (if x0 < 0 then (some 1) else (if x0 > 65536 then (some 1) else (if ((rd_T60 x1 x5).f0.f0) < 0 then (some 1) else (if ((rd_T60 x1 x5).f0.f1) < ((rd_T60 x1 x5).f0.f0) then (some 1) else (if ((rd_T60 x1 x5).f0.f1) > x0 then (some 1) else (caulkerref03_Check.l0 k x0 x1 (wrap64 (x5 + 1))))))))) else (none)) else (caulkerref03_Check.l1 k x1 1)
def caulkerref03_Check.l1 : Nat → List (S60) → Int → Option (Int)
 | 0, _, _ => none
 | k + 1, x1, x7 => if x7 < (x1.length : Int) then (if 0 ≤ (wrap64 (x7 - 1)) then (if (wrap64 (x7 - 1)) < (x1.length : Int) then (if 0 ≤ x7 then (if ((rd_T60 x1 (wrap64 (x7 - 1))).f0.f1) > ((rd_T60 x1 x7).f0.f0) then (some 7) else (caulkerref03_Check.l1 k x1 (wrap64 (x7 + 1)))) else (none)) else (none)) else (none)) else (some 0)
end
def caulkerref03_Check.f (k : Nat) (a0 : Int) (l1 : List (S60)) : Option (Int) := if (l1.length : Int) > 4096 then (some 2) else (caulkerref03_Check.l0 k a0 l1 0)
theorem caulkerref03_Check.mono_l : ∀ k, (∀ y0 y1 y2, LeO (caulkerref03_Check.l0 k y0 y1 y2) (caulkerref03_Check.l0 (k + 1) y0 y1 y2)) ∧ (∀ y0 y1, LeO (caulkerref03_Check.l1 k y0 y1) (caulkerref03_Check.l1 (k + 1) y0 y1))
 | 0 => ⟨fun _ _ _ r h => by simp [caulkerref03_Check.l0] at h, fun _ _ r h => by simp [caulkerref03_Check.l1] at h⟩
 | k + 1 => by
  obtain ⟨ih0, ih1⟩ := caulkerref03_Check.mono_l k
  refine ⟨?_, ?_⟩
  ·intro y0 y1 y2
   unfold caulkerref03_Check.l0
   repeat' first
   | (with_reducible exact ih0 _ _ _)
   | (with_reducible exact ih1 _ _)
   | (with_reducible exact LeO.refl _)
   | (with_reducible exact LeO.none _)
   | (with_reducible refine LeO.ite ?_ ?_)
   | (with_reducible refine LeO.bind ?_ (fun _ => ?_))
   | exact ih0 _ _ _
   | exact ih1 _ _
   | exact LeO.none _
   | refine LeO.ite ?_ ?_
   | refine LeO.bind ?_ (fun _ => ?_)
  ·intro y0 y1
   unfold caulkerref03_Check.l1
   repeat' first
   | (with_reducible exact ih0 _ _ _)
   | (with_reducible exact ih1 _ _)
   | (with_reducible exact LeO.refl _)
   | (with_reducible exact LeO.none _)
   | (with_reducible refine LeO.ite ?_ ?_)
   | (with_reducible refine LeO.bind ?_ (fun _ => ?_))
   | exact ih0 _ _ _
   | exact ih1 _ _
   | exact LeO.none _
   | refine LeO.ite ?_ ?_
   | refine LeO.bind ?_ (fun _ => ?_)
theorem caulkerref03_Check.mono : ∀ a0 a1 k, LeO (caulkerref03_Check.f k a0 a1) (caulkerref03_Check.f (k + 1) a0 a1) := by
 intro a0 a1 k
 obtain ⟨ih0, ih1⟩ := caulkerref03_Check.mono_l k
 unfold caulkerref03_Check.f
 repeat' first
   | (with_reducible exact ih0 _ _ _)
   | (with_reducible exact ih1 _ _)
   | (with_reducible exact LeO.refl _)
   | (with_reducible exact LeO.none _)
   | (with_reducible refine LeO.ite ?_ ?_)
   | (with_reducible refine LeO.bind ?_ (fun _ => ?_))
   | exact ih0 _ _ _
   | exact ih1 _ _
   | exact LeO.none _
   | refine LeO.ite ?_ ?_
   | refine LeO.bind ?_ (fun _ => ?_)
def caulkerref03_Check.T14 : Bool × List (List Nat × List Nat) := (true, [([], []), ([], []), ([1], [1]), ([0, 2], [0, 2]), ([3], [3]), ([], []), ([], []), ([5, 6], [5, 6]), ([7], [7]), ([], []), ([], []), ([9, 4, 0, 1, 2, 3, 4, 9, 10], [4, 9]), ([10, 8, 11, 0, 1, 2, 3, 4, 5, 6, 7, 8, 9, 10, 11], [8, 10])])
def caulkerref03_Check.B14 : List Nat := [0, 0, 2, 7, 15, 0, 0, 96, 224, 0, 0, 1567, 4095]
theorem caulkerref03_Check.tab14 : rtab .any (opsOf Try.f34 14) = caulkerref03_Check.T14 := by kernel_rfl
theorem caulkerref03_Check.bits14 : waitsOk caulkerref03_Check.T14.2 caulkerref03_Check.B14 = true := by kernel_rfl
set_option maxHeartbeats 8000000 in
set_option maxRecDepth 100000 in
theorem caulkerref03_Check.calls (k : Nat) (a0 : Int) (A1 : Option Addr) (c1 : Nat) (l1 : List (S60)) (r : Int) (w : World) (hr1 : Kd.C k60 w A1 l1.length l1) (hc1 : l1.length ≤ c1) (h : caulkerref03_Check.f k a0 l1 = some r) :
  Calls Try.prog 34 #[.int .i64 a0, .slice A1 l1.length c1] w fun e w' => e = .returned (.int .i64 r) ∧ Below w.heap.size w w' := by
 have hu60 := Try.underlying60
 have HR1 := Aside0.mk hr1
 have HC1 := Aside0.mk hc1
 clear hr1 hc1
 have HB := Aside0.mk (Below.refl w.heap.size w)
 have H : (if (l1.length : Int) > 4096 then (some 2) else (caulkerref03_Check.l0 k a0 l1 0)) = some r := h
 clear h
 by_cases c3 : (l1.length : Int) > 4096
 ·rw [if_pos c3] at H
  have c3b0 : decide (4096 < (l1.length : Int)) = true := decide_eq_true c3
  have c3b1 : decide (4096 < l1.length) = true := decide_eq_true (by omega)
  clear c3
  obtain rfl := Option.some.inj H
  go_enter Try.func34, Try.ntmps34
  go_wp2
  go_ret
  exact ⟨by first | rfl | (simp [errW_none, errW_some] <;> rfl) | (simp [*, errW_none, errW_some] <;> rfl), pxb HB⟩
 ·rw [if_neg c3] at H
  have c3b0 : decide (4096 < (l1.length : Int)) = false := decide_eq_false c3
  have c3b1 : decide (4096 < l1.length) = false := decide_eq_false (by omega)
  clear c3
  have H' := Aside0.mk H
  clear H
  go_enter Try.func34, Try.ntmps34
  go_wp2
  go_loopg [5] k (fun kq v5 w' => ∃ (x5_1 : Int), v5 = .int .i64 x5_1 ∧ Aside0 (caulkerref03_Check.l0 kq a0 l1 x5_1 = some r) ∧ Aside0 (kq ≤ k) ∧ Aside0 (Below w.heap.size w w'))
  case atStart => exact ⟨(0), (by first | rfl | (simp; done) | (simp [*]; done)), H', ⟨Nat.le_refl _⟩, ⟨pxb HB⟩⟩
  case round =>
   clear H'
   try clear c1
   try clear p2
   try clear c3
   try clear c3b0
   try clear c3b1
   obtain ⟨x5_1, rfl, HA, HK1, HB⟩ := hrel
   cases gk with
   | zero => exact absurd HA.out (by simp [caulkerref03_Check.l0])
   | succ k1 =>
    have H := HA.out
    clear HA
    simp only [caulkerref03_Check.l0] at H
    by_cases c4 : x5_1 < (l1.length : Int)
    ·rw [if_pos c4] at H
     have c4b0 : decide (x5_1 < (l1.length : Int)) = true := decide_eq_true c4
     clear c4
     by_cases c5 : 0 ≤ x5_1
     ·rw [if_pos c5] at H
      have c5b0 : decide (0 ≤ x5_1) = true := decide_eq_true c5
      clear c5
      by_cases c6 : (((rd_T60 l1 x5_1).f1).size : Int) > 65536
      ·rw [if_pos c6] at H
       have c6b0 : decide (65536 < (((rd_T60 l1 x5_1).f1).size : Int)) = true := decide_eq_true c6
       have c6b1 : decide (65536 < ((rd_T60 l1 x5_1).f1).size) = true := decide_eq_true (by omega)
       clear c6
       obtain rfl := Option.some.inj H
       have p324 : 0 ≤ (x5_1 : Int) := of_decide_eq_true (by first | (with_reducible assumption) | assumption)
       have q324 : x5_1 < (l1.length : Int) := of_decide_eq_true (by first | (with_reducible assumption) | assumption)
       obtain ⟨ad324, e324, hx324_0, hx324_1, hx324_2⟩ := at_T60 HR1.out x5_1 p324 q324
       cases e324
       replace hx324_0 := (HB.out.cell (World.block_lt_of_cell? w _ hx324_0)).trans hx324_0
       replace hx324_1 := (HB.out.cell (World.block_lt_of_cell? w _ hx324_1)).trans hx324_1
       replace hx324_2 := (HB.out.cell (World.block_lt_of_cell? w _ hx324_2)).trans hx324_2
       replace p324 := eq_true p324
       replace q324 := eq_true q324
       go_wp2_with (first | ((with_reducible refine gate_dst (N := 6) rfl ?_); refine box_event ?hg (N := 6) ?hd (cs := #[.int .i64 0, .int .i64 0, .string (⟨#[]⟩ : ByteArray)]) (t := 60) ?hr ?_; (case hd => rfl); (case hg => rfl); (case hr => first | (go_simp; done) | (go_simp; rfl)); intro gb325 hg w7 hbox hb; have n0_ := pxs HB hb; have n1_ := Aside0.mk (hbox); have n2_ := Aside0.mk ((by rw [hg]; exact (below_size (pxb HB)) : w.heap.size ≤ gb325)); have n3_ := Aside0.mk ((by rw [hg]; exact (below_size (pxb HB)) : w.heap.size ≤ gb325)); clear HB; have HB := n0_; have BK325 := n1_; have GW325 := n2_; have GE325 := n3_; clear n0_ n1_ n2_ n3_; clear hb hbox hg; have hcz8_0 : w7.cell? ⟨gb325, 0, none⟩ = some (.int .i64 0) := (blk_cell BK325.out 0).trans rfl; have hcz8_1 : w7.cell? ⟨gb325, 1, none⟩ = some (.int .i64 0) := (blk_cell BK325.out 1).trans rfl; have hcz8_2 : w7.cell? ⟨gb325, 2, none⟩ = some (.string (⟨#[]⟩ : ByteArray)) := (blk_cell BK325.out 2).trans rfl; have hfz8_0 := blk_frozen BK325.out 0; have hfz8_1 := blk_frozen BK325.out 1; have hfz8_2 := blk_frozen BK325.out 2))
       go_ret
       exact ⟨by first | rfl | (simp [errW_none, errW_some] <;> rfl) | (simp [*, errW_none, errW_some] <;> rfl), pxb HB⟩
      ·rw [if_neg c6] at H
       have c6b0 : decide (65536 < (((rd_T60 l1 x5_1).f1).size : Int)) = false := decide_eq_false c6
       have c6b1 : decide (65536 < ((rd_T60 l1 x5_1).f1).size) = false := decide_eq_false (by omega)
       clear c6
       by_cases c9 : a0 < 0
       ·rw [if_pos c9] at H
        have c9b0 : decide (a0 < 0) = true := decide_eq_true c9
        clear c9
        obtain rfl := Option.some.inj H
        have p324 : 0 ≤ (x5_1 : Int) := of_decide_eq_true (by first | (with_reducible assumption) | assumption)
        have q324 : x5_1 < (l1.length : Int) := of_decide_eq_true (by first | (with_reducible assumption) | assumption)
        obtain ⟨ad324, e324, hx324_0, hx324_1, hx324_2⟩ := at_T60 HR1.out x5_1 p324 q324
        cases e324
        replace hx324_0 := (HB.out.cell (World.block_lt_of_cell? w _ hx324_0)).trans hx324_0
        replace hx324_1 := (HB.out.cell (World.block_lt_of_cell? w _ hx324_1)).trans hx324_1
        replace hx324_2 := (HB.out.cell (World.block_lt_of_cell? w _ hx324_2)).trans hx324_2
        replace p324 := eq_true p324
        replace q324 := eq_true q324
        go_wp2_with (first | ((with_reducible refine gate_dst (N := 6) rfl ?_); refine box_event ?hg (N := 6) ?hd (cs := #[.int .i64 0, .int .i64 0, .string (⟨#[]⟩ : ByteArray)]) (t := 60) ?hr ?_; (case hd => rfl); (case hg => rfl); (case hr => first | (go_simp; done) | (go_simp; rfl)); intro gb325 hg w10 hbox hb; have n0_ := pxs HB hb; have n1_ := Aside0.mk (hbox); have n2_ := Aside0.mk ((by rw [hg]; exact (below_size (pxb HB)) : w.heap.size ≤ gb325)); have n3_ := Aside0.mk ((by rw [hg]; exact (below_size (pxb HB)) : w.heap.size ≤ gb325)); clear HB; have HB := n0_; have BK325 := n1_; have GW325 := n2_; have GE325 := n3_; clear n0_ n1_ n2_ n3_; clear hb hbox hg; have hcz11_0 : w10.cell? ⟨gb325, 0, none⟩ = some (.int .i64 0) := (blk_cell BK325.out 0).trans rfl; have hcz11_1 : w10.cell? ⟨gb325, 1, none⟩ = some (.int .i64 0) := (blk_cell BK325.out 1).trans rfl; have hcz11_2 : w10.cell? ⟨gb325, 2, none⟩ = some (.string (⟨#[]⟩ : ByteArray)) := (blk_cell BK325.out 2).trans rfl; have hfz11_0 := blk_frozen BK325.out 0; have hfz11_1 := blk_frozen BK325.out 1; have hfz11_2 := blk_frozen BK325.out 2))
        go_ret
        exact ⟨by first | rfl | (simp [errW_none, errW_some] <;> rfl) | (simp [*, errW_none, errW_some] <;> rfl), pxb HB⟩
       ·rw [if_neg c9] at H
        have c9b0 : decide (a0 < 0) = false := decide_eq_false c9
        clear c9
        by_cases c12 : a0 > 65536
        ·rw [if_pos c12] at H
         have c12b0 : decide (65536 < a0) = true := decide_eq_true c12
         clear c12
         obtain rfl := Option.some.inj H
         have p324 : 0 ≤ (x5_1 : Int) := of_decide_eq_true (by first | (with_reducible assumption) | assumption)
         have q324 : x5_1 < (l1.length : Int) := of_decide_eq_true (by first | (with_reducible assumption) | assumption)
         obtain ⟨ad324, e324, hx324_0, hx324_1, hx324_2⟩ := at_T60 HR1.out x5_1 p324 q324
         cases e324
         replace hx324_0 := (HB.out.cell (World.block_lt_of_cell? w _ hx324_0)).trans hx324_0
         replace hx324_1 := (HB.out.cell (World.block_lt_of_cell? w _ hx324_1)).trans hx324_1
         replace hx324_2 := (HB.out.cell (World.block_lt_of_cell? w _ hx324_2)).trans hx324_2
         replace p324 := eq_true p324
         replace q324 := eq_true q324
         go_wp2_with (first | ((with_reducible refine gate_dst (N := 6) rfl ?_); refine box_event ?hg (N := 6) ?hd (cs := #[.int .i64 0, .int .i64 0, .string (⟨#[]⟩ : ByteArray)]) (t := 60) ?hr ?_; (case hd => rfl); (case hg => rfl); (case hr => first | (go_simp; done) | (go_simp; rfl)); intro gb325 hg w13 hbox hb; have n0_ := pxs HB hb; have n1_ := Aside0.mk (hbox); have n2_ := Aside0.mk ((by rw [hg]; exact (below_size (pxb HB)) : w.heap.size ≤ gb325)); have n3_ := Aside0.mk ((by rw [hg]; exact (below_size (pxb HB)) : w.heap.size ≤ gb325)); clear HB; have HB := n0_; have BK325 := n1_; have GW325 := n2_; have GE325 := n3_; clear n0_ n1_ n2_ n3_; clear hb hbox hg; have hcz14_0 : w13.cell? ⟨gb325, 0, none⟩ = some (.int .i64 0) := (blk_cell BK325.out 0).trans rfl; have hcz14_1 : w13.cell? ⟨gb325, 1, none⟩ = some (.int .i64 0) := (blk_cell BK325.out 1).trans rfl; have hcz14_2 : w13.cell? ⟨gb325, 2, none⟩ = some (.string (⟨#[]⟩ : ByteArray)) := (blk_cell BK325.out 2).trans rfl; have hfz14_0 := blk_frozen BK325.out 0; have hfz14_1 := blk_frozen BK325.out 1; have hfz14_2 := blk_frozen BK325.out 2))
         go_ret
         exact ⟨by first | rfl | (simp [errW_none, errW_some] <;> rfl) | (simp [*, errW_none, errW_some] <;> rfl), pxb HB⟩
        ·rw [if_neg c12] at H
         have c12b0 : decide (65536 < a0) = false := decide_eq_false c12
         clear c12
         by_cases c15 : ((rd_T60 l1 x5_1).f0.f0) < 0
         ·rw [if_pos c15] at H
          have c15b0 : decide (((rd_T60 l1 x5_1).f0.f0) < 0) = true := decide_eq_true c15
          clear c15
          obtain rfl := Option.some.inj H
          have p324 : 0 ≤ (x5_1 : Int) := of_decide_eq_true (by first | (with_reducible assumption) | assumption)
          have q324 : x5_1 < (l1.length : Int) := of_decide_eq_true (by first | (with_reducible assumption) | assumption)
          obtain ⟨ad324, e324, hx324_0, hx324_1, hx324_2⟩ := at_T60 HR1.out x5_1 p324 q324
          cases e324
          replace hx324_0 := (HB.out.cell (World.block_lt_of_cell? w _ hx324_0)).trans hx324_0
          replace hx324_1 := (HB.out.cell (World.block_lt_of_cell? w _ hx324_1)).trans hx324_1
          replace hx324_2 := (HB.out.cell (World.block_lt_of_cell? w _ hx324_2)).trans hx324_2
          replace p324 := eq_true p324
          replace q324 := eq_true q324
          go_wp2_with (first | ((with_reducible refine gate_dst (N := 6) rfl ?_); refine box_event ?hg (N := 6) ?hd (cs := #[.int .i64 0, .int .i64 0, .string (⟨#[]⟩ : ByteArray)]) (t := 60) ?hr ?_; (case hd => rfl); (case hg => rfl); (case hr => first | (go_simp; done) | (go_simp; rfl)); intro gb325 hg w16 hbox hb; have n0_ := pxs HB hb; have n1_ := Aside0.mk (hbox); have n2_ := Aside0.mk ((by rw [hg]; exact (below_size (pxb HB)) : w.heap.size ≤ gb325)); have n3_ := Aside0.mk ((by rw [hg]; exact (below_size (pxb HB)) : w.heap.size ≤ gb325)); clear HB; have HB := n0_; have BK325 := n1_; have GW325 := n2_; have GE325 := n3_; clear n0_ n1_ n2_ n3_; clear hb hbox hg; have hcz17_0 : w16.cell? ⟨gb325, 0, none⟩ = some (.int .i64 0) := (blk_cell BK325.out 0).trans rfl; have hcz17_1 : w16.cell? ⟨gb325, 1, none⟩ = some (.int .i64 0) := (blk_cell BK325.out 1).trans rfl; have hcz17_2 : w16.cell? ⟨gb325, 2, none⟩ = some (.string (⟨#[]⟩ : ByteArray)) := (blk_cell BK325.out 2).trans rfl; have hfz17_0 := blk_frozen BK325.out 0; have hfz17_1 := blk_frozen BK325.out 1; have hfz17_2 := blk_frozen BK325.out 2))
          go_ret
          exact ⟨by first | rfl | (simp [errW_none, errW_some] <;> rfl) | (simp [*, errW_none, errW_some] <;> rfl), pxb HB⟩
         ·rw [if_neg c15] at H
          have c15b0 : decide (((rd_T60 l1 x5_1).f0.f0) < 0) = false := decide_eq_false c15
          clear c15
          by_cases c18 : ((rd_T60 l1 x5_1).f0.f1) < ((rd_T60 l1 x5_1).f0.f0)
          ·rw [if_pos c18] at H
           have c18b0 : decide (((rd_T60 l1 x5_1).f0.f1) < ((rd_T60 l1 x5_1).f0.f0)) = true := decide_eq_true c18
           clear c18
           obtain rfl := Option.some.inj H
           have p324 : 0 ≤ (x5_1 : Int) := of_decide_eq_true (by first | (with_reducible assumption) | assumption)
           have q324 : x5_1 < (l1.length : Int) := of_decide_eq_true (by first | (with_reducible assumption) | assumption)
           obtain ⟨ad324, e324, hx324_0, hx324_1, hx324_2⟩ := at_T60 HR1.out x5_1 p324 q324
           cases e324
           replace hx324_0 := (HB.out.cell (World.block_lt_of_cell? w _ hx324_0)).trans hx324_0
           replace hx324_1 := (HB.out.cell (World.block_lt_of_cell? w _ hx324_1)).trans hx324_1
           replace hx324_2 := (HB.out.cell (World.block_lt_of_cell? w _ hx324_2)).trans hx324_2
           replace p324 := eq_true p324
           replace q324 := eq_true q324
           go_wp2_with (first | ((with_reducible refine gate_dst (N := 6) rfl ?_); refine box_event ?hg (N := 6) ?hd (cs := #[.int .i64 0, .int .i64 0, .string (⟨#[]⟩ : ByteArray)]) (t := 60) ?hr ?_; (case hd => rfl); (case hg => rfl); (case hr => first | (go_simp; done) | (go_simp; rfl)); intro gb325 hg w19 hbox hb; have n0_ := pxs HB hb; have n1_ := Aside0.mk (hbox); have n2_ := Aside0.mk ((by rw [hg]; exact (below_size (pxb HB)) : w.heap.size ≤ gb325)); have n3_ := Aside0.mk ((by rw [hg]; exact (below_size (pxb HB)) : w.heap.size ≤ gb325)); clear HB; have HB := n0_; have BK325 := n1_; have GW325 := n2_; have GE325 := n3_; clear n0_ n1_ n2_ n3_; clear hb hbox hg; have hcz20_0 : w19.cell? ⟨gb325, 0, none⟩ = some (.int .i64 0) := (blk_cell BK325.out 0).trans rfl; have hcz20_1 : w19.cell? ⟨gb325, 1, none⟩ = some (.int .i64 0) := (blk_cell BK325.out 1).trans rfl; have hcz20_2 : w19.cell? ⟨gb325, 2, none⟩ = some (.string (⟨#[]⟩ : ByteArray)) := (blk_cell BK325.out 2).trans rfl; have hfz20_0 := blk_frozen BK325.out 0; have hfz20_1 := blk_frozen BK325.out 1; have hfz20_2 := blk_frozen BK325.out 2))
           go_ret
           exact ⟨by first | rfl | (simp [errW_none, errW_some] <;> rfl) | (simp [*, errW_none, errW_some] <;> rfl), pxb HB⟩
          ·rw [if_neg c18] at H
           have c18b0 : decide (((rd_T60 l1 x5_1).f0.f1) < ((rd_T60 l1 x5_1).f0.f0)) = false := decide_eq_false c18
           clear c18
           by_cases c21 : ((rd_T60 l1 x5_1).f0.f1) > a0
           ·rw [if_pos c21] at H
            have c21b0 : decide (a0 < ((rd_T60 l1 x5_1).f0.f1)) = true := decide_eq_true c21
            clear c21
            obtain rfl := Option.some.inj H
            have p324 : 0 ≤ (x5_1 : Int) := of_decide_eq_true (by first | (with_reducible assumption) | assumption)
            have q324 : x5_1 < (l1.length : Int) := of_decide_eq_true (by first | (with_reducible assumption) | assumption)
            obtain ⟨ad324, e324, hx324_0, hx324_1, hx324_2⟩ := at_T60 HR1.out x5_1 p324 q324
            cases e324
            replace hx324_0 := (HB.out.cell (World.block_lt_of_cell? w _ hx324_0)).trans hx324_0
            replace hx324_1 := (HB.out.cell (World.block_lt_of_cell? w _ hx324_1)).trans hx324_1
            replace hx324_2 := (HB.out.cell (World.block_lt_of_cell? w _ hx324_2)).trans hx324_2
            replace p324 := eq_true p324
            replace q324 := eq_true q324
            go_wp2_with (first | ((with_reducible refine gate_dst (N := 6) rfl ?_); refine box_event ?hg (N := 6) ?hd (cs := #[.int .i64 0, .int .i64 0, .string (⟨#[]⟩ : ByteArray)]) (t := 60) ?hr ?_; (case hd => rfl); (case hg => rfl); (case hr => first | (go_simp; done) | (go_simp; rfl)); intro gb325 hg w22 hbox hb; have n0_ := pxs HB hb; have n1_ := Aside0.mk (hbox); have n2_ := Aside0.mk ((by rw [hg]; exact (below_size (pxb HB)) : w.heap.size ≤ gb325)); have n3_ := Aside0.mk ((by rw [hg]; exact (below_size (pxb HB)) : w.heap.size ≤ gb325)); clear HB; have HB := n0_; have BK325 := n1_; have GW325 := n2_; have GE325 := n3_; clear n0_ n1_ n2_ n3_; clear hb hbox hg; have hcz23_0 : w22.cell? ⟨gb325, 0, none⟩ = some (.int .i64 0) := (blk_cell BK325.out 0).trans rfl; have hcz23_1 : w22.cell? ⟨gb325, 1, none⟩ = some (.int .i64 0) := (blk_cell BK325.out 1).trans rfl; have hcz23_2 : w22.cell? ⟨gb325, 2, none⟩ = some (.string (⟨#[]⟩ : ByteArray)) := (blk_cell BK325.out 2).trans rfl; have hfz23_0 := blk_frozen BK325.out 0; have hfz23_1 := blk_frozen BK325.out 1; have hfz23_2 := blk_frozen BK325.out 2))
            go_ret
            exact ⟨by first | rfl | (simp [errW_none, errW_some] <;> rfl) | (simp [*, errW_none, errW_some] <;> rfl), pxb HB⟩
           ·rw [if_neg c21] at H
            have c21b0 : decide (a0 < ((rd_T60 l1 x5_1).f0.f1)) = false := decide_eq_false c21
            clear c21
            have H' := Aside0.mk H
            clear H
            have p324 : 0 ≤ (x5_1 : Int) := of_decide_eq_true (by first | (with_reducible assumption) | assumption)
            have q324 : x5_1 < (l1.length : Int) := of_decide_eq_true (by first | (with_reducible assumption) | assumption)
            obtain ⟨ad324, e324, hx324_0, hx324_1, hx324_2⟩ := at_T60 HR1.out x5_1 p324 q324
            cases e324
            replace hx324_0 := (HB.out.cell (World.block_lt_of_cell? w _ hx324_0)).trans hx324_0
            replace hx324_1 := (HB.out.cell (World.block_lt_of_cell? w _ hx324_1)).trans hx324_1
            replace hx324_2 := (HB.out.cell (World.block_lt_of_cell? w _ hx324_2)).trans hx324_2
            replace p324 := eq_true p324
            replace q324 := eq_true q324
            go_wp2_with (first | ((with_reducible refine gate_dst (N := 6) rfl ?_); refine box_event ?hg (N := 6) ?hd (cs := #[.int .i64 0, .int .i64 0, .string (⟨#[]⟩ : ByteArray)]) (t := 60) ?hr ?_; (case hd => rfl); (case hg => rfl); (case hr => first | (go_simp; done) | (go_simp; rfl)); intro gb325 hg w24 hbox hb; have n0_ := pxs HB hb; have n1_ := Aside0.mk (hbox); have n2_ := Aside0.mk ((by rw [hg]; exact (below_size (pxb HB)) : w.heap.size ≤ gb325)); have n3_ := Aside0.mk ((by rw [hg]; exact (below_size (pxb HB)) : w.heap.size ≤ gb325)); clear HB; have HB := n0_; have BK325 := n1_; have GW325 := n2_; have GE325 := n3_; clear n0_ n1_ n2_ n3_; clear hb hbox hg; have hcz25_0 : w24.cell? ⟨gb325, 0, none⟩ = some (.int .i64 0) := (blk_cell BK325.out 0).trans rfl; have hcz25_1 : w24.cell? ⟨gb325, 1, none⟩ = some (.int .i64 0) := (blk_cell BK325.out 1).trans rfl; have hcz25_2 : w24.cell? ⟨gb325, 2, none⟩ = some (.string (⟨#[]⟩ : ByteArray)) := (blk_cell BK325.out 2).trans rfl; have hfz25_0 := blk_frozen BK325.out 0; have hfz25_1 := blk_frozen BK325.out 1; have hfz25_2 := blk_frozen BK325.out 2))
            go_roundg k1
            case measure => have := HK1.out; omega
            case rel => exact ⟨(wrap64 (x5_1 + 1)), (by first | rfl | (simp; done) | (simp [*]; done)), H', ⟨by have := HK1.out; omega⟩, ⟨pxb HB⟩⟩
     ·rw [if_neg c5] at H
      exact absurd H (by simp)
    ·rw [if_neg c4] at H
     have c4b0 : decide (x5_1 < (l1.length : Int)) = false := decide_eq_false c4
     clear c4
     have H' := Aside0.mk H
     clear H
     go_wp2
     go_loopg [7] k1 (fun kq v7 w' => ∃ (x7_2 : Int), v7 = .int .i64 x7_2 ∧ Aside0 (caulkerref03_Check.l1 kq l1 x7_2 = some r) ∧ Aside0 (kq ≤ k1) ∧ Aside0 (Below w.heap.size w w'))
     case atStart => exact ⟨(1), (by first | rfl | (simp; done) | (simp [*]; done)), H', ⟨Nat.le_refl _⟩, ⟨pxb HB⟩⟩
     case round =>
      clear H'
      try clear c1
      try clear c2
      try clear p2
      try clear c3
      try clear c3b0
      try clear c3b1
      try clear p3
      try clear q3
      try clear hx3
      try clear c4
      try clear c4b0
      try clear c5
      try clear c5b0
      try clear c6
      try clear c6b0
      try clear c6b1
      try clear p6
      try clear c9
      try clear c9b0
      try clear c12
      try clear c12b0
      try clear c15
      try clear c15b0
      try clear c18
      try clear c18b0
      try clear c21
      try clear c21b0
      try clear hcz11_0
      try clear hcz11_1
      try clear hcz11_2
      try clear hcz14_0
      try clear hcz14_1
      try clear hcz14_2
      try clear hcz17_0
      try clear hcz17_1
      try clear hcz17_2
      try clear hcz20_0
      try clear hcz20_1
      try clear hcz20_2
      try clear hcz23_0
      try clear hcz23_1
      try clear hcz23_2
      try clear hcz25_0
      try clear hcz25_1
      try clear hcz25_2
      try clear hcz8_0
      try clear hcz8_1
      try clear hcz8_2
      try clear hfz11_0
      try clear hfz11_1
      try clear hfz11_2
      try clear hfz14_0
      try clear hfz14_1
      try clear hfz14_2
      try clear hfz17_0
      try clear hfz17_1
      try clear hfz17_2
      try clear hfz20_0
      try clear hfz20_1
      try clear hfz20_2
      try clear hfz23_0
      try clear hfz23_1
      try clear hfz23_2
      try clear hfz25_0
      try clear hfz25_1
      try clear hfz25_2
      try clear hfz8_0
      try clear hfz8_1
      try clear hfz8_2
      try clear hx324_0
      try clear hx324_1
      try clear hx324_2
      try clear p2
      try clear p324
      try clear q324
      obtain ⟨x7_2, rfl, HA, HK2, HB⟩ := hrel
      cases gk with
      | zero => exact absurd HA.out (by simp [caulkerref03_Check.l1])
      | succ k2 =>
       have H := HA.out
       clear HA
       simp only [caulkerref03_Check.l1] at H
       by_cases c26 : x7_2 < (l1.length : Int)
       ·rw [if_pos c26] at H
        have c26b0 : decide (x7_2 < (l1.length : Int)) = true := decide_eq_true c26
        clear c26
        obtain ⟨ji27, hji27⟩ : ∃ j_ : Int, (wrap64 (x7_2 - 1)) = j_ := ⟨_, rfl⟩
        replace H : (if 0 ≤ (ji27) then (if (ji27) < (l1.length : Int) then (if 0 ≤ x7_2 then (if ((rd_T60 l1 (ji27)).f0.f1) > ((rd_T60 l1 x7_2).f0.f0) then (some 7) else (caulkerref03_Check.l1 k2 l1 (wrap64 (x7_2 + 1)))) else (none)) else (none)) else (none)) = some r := by first | (rw [hji27] at H; exact H) | (simp only [hji27] at H ⊢; exact H)
        have hji27w : (IntKind.i64.wrap (x7_2 - 1)) = ji27 := (i64_w _).trans hji27
        by_cases c28 : 0 ≤ (ji27)
        ·rw [if_pos c28] at H
         have c28b0 : decide (0 ≤ (ji27)) = true := decide_eq_true c28
         clear c28
         by_cases c29 : (ji27) < (l1.length : Int)
         ·rw [if_pos c29] at H
          have c29b0 : decide ((ji27) < (l1.length : Int)) = true := decide_eq_true c29
          clear c29
          by_cases c30 : 0 ≤ x7_2
          ·rw [if_pos c30] at H
           have c30b0 : decide (0 ≤ x7_2) = true := decide_eq_true c30
           clear c30
           by_cases c31 : ((rd_T60 l1 (ji27)).f0.f1) > ((rd_T60 l1 x7_2).f0.f0)
           ·rw [if_pos c31] at H
            have c31b0 : decide (((rd_T60 l1 x7_2).f0.f0) < ((rd_T60 l1 (ji27)).f0.f1)) = true := decide_eq_true c31
            clear c31
            obtain rfl := Option.some.inj H
            try go_wp2
            have n0_ := Aside0.mk (below_drew1 HB.out)
            clear HB
            have HB := n0_
            clear n0_
            have p326 : 0 ≤ ((ji27) : Int) := of_decide_eq_true (by first | (with_reducible assumption) | assumption)
            have q326 : (ji27) < (l1.length : Int) := of_decide_eq_true (by first | (with_reducible assumption) | assumption)
            obtain ⟨ad326, e326, hx326_0, hx326_1, hx326_2⟩ := at_T60 HR1.out (ji27) p326 q326
            have hw326_2 := hx326_2
            have hw326_1 := hx326_1
            have hw326_0 := hx326_0
            cases e326
            replace hx326_0 := (HB.out.cell (World.block_lt_of_cell? w _ hx326_0)).trans hx326_0
            replace hx326_1 := (HB.out.cell (World.block_lt_of_cell? w _ hx326_1)).trans hx326_1
            replace hx326_2 := (HB.out.cell (World.block_lt_of_cell? w _ hx326_2)).trans hx326_2
            replace p326 := eq_true p326
            replace q326 := eq_true q326
            have p327 : 0 ≤ (x7_2 : Int) := of_decide_eq_true (by first | (with_reducible assumption) | assumption)
            have q327 : x7_2 < (l1.length : Int) := of_decide_eq_true (by first | (with_reducible assumption) | assumption)
            obtain ⟨ad327, e327, hx327_0, hx327_1, hx327_2⟩ := at_T60 HR1.out x7_2 p327 q327
            have hw327_2 := hx327_2
            have hw327_1 := hx327_1
            have hw327_0 := hx327_0
            obtain rfl : ad326 = ad327 := (by injection e327)
            replace hx327_0 := (HB.out.cell (World.block_lt_of_cell? w _ hx327_0)).trans hx327_0
            replace hx327_1 := (HB.out.cell (World.block_lt_of_cell? w _ hx327_1)).trans hx327_1
            replace hx327_2 := (HB.out.cell (World.block_lt_of_cell? w _ hx327_2)).trans hx327_2
            replace p327 := eq_true p327
            replace q327 := eq_true q327
            refine start_ (n := 13) (S := fun w' => w'.cell? (ad326.add (((ji27)).toNat * 3)) = some (.int .i64 ((rd_T60 l1 (ji27)).f0.f0)) ∧ w'.cell? ⟨(ad326.add (((ji27)).toNat * 3)).block, (ad326.add (((ji27)).toNat * 3)).off + 1, none⟩ = some (.int .i64 ((rd_T60 l1 (ji27)).f0.f1)) ∧ w'.cell? ⟨(ad326.add (((ji27)).toNat * 3)).block, (ad326.add (((ji27)).toNat * 3)).off + 2, none⟩ = some (.string ((rd_T60 l1 (ji27)).f1)) ∧ w'.cell? (ad326.add ((x7_2).toNat * 3)) = some (.int .i64 ((rd_T60 l1 x7_2).f0.f0)) ∧ w'.cell? ⟨(ad326.add ((x7_2).toNat * 3)).block, (ad326.add ((x7_2).toNat * 3)).off + 1, none⟩ = some (.int .i64 ((rd_T60 l1 x7_2).f0.f1)) ∧ w'.cell? ⟨(ad326.add ((x7_2).toNat * 3)).block, (ad326.add ((x7_2).toNat * 3)).off + 2, none⟩ = some (.string ((rd_T60 l1 x7_2).f1))) (ds := []) #[false, false, false, false, false, false, false, false, false, false, false, false, false] (by kernel_rfl) rfl rfl ⟨((HB.out.cell (World.block_lt_of_cell? w _ hw326_0)).trans hw326_0), ((HB.out.cell (World.block_lt_of_cell? w _ hw326_1)).trans hw326_1), ((HB.out.cell (World.block_lt_of_cell? w _ hw326_2)).trans hw326_2), ((HB.out.cell (World.block_lt_of_cell? w _ hw327_0)).trans hw327_0), ((HB.out.cell (World.block_lt_of_cell? w _ hw327_1)).trans hw327_1), ((HB.out.cell (World.block_lt_of_cell? w _ hw327_2)).trans hw327_2)⟩ (fun hHeld => ?_); refine with_tabW caulkerref03_Check.tab14 caulkerref03_Check.bits14 (fun HT_ HW_ => ?_)
            generalize wr.drew = w32 at HB hx326_0 hx326_1 hx326_2 hx327_0 hx327_1 hx327_2 hHeld ⊢
            refine pure_ (i := 0) (N := some 61) (v := ?_) (a' := ?_) #[true, false, false, false, false, false, false, false, false, false, false, false, false] rfl rfl (any_of HT_.out (by kernel_rfl)) (fun _ _ _ h => h) (Or.inl ⟨by rfl, ?_⟩) ?_ ?_
            rotate_left
            ·intro w'
             go_simp
             with_reducible rfl
            rotate_left
            ·simp only [Act.put, List.setIfInBounds_toArray, List.set_cons_zero, List.set_cons_succ, i64_w, i32_w]
             rfl
            refine pure_ (i := 1) (N := some 62) (v := ?_) (a' := ?_) #[true, true, false, false, false, false, false, false, false, false, false, false, false] rfl rfl (any_of HT_.out (by kernel_rfl)) (fun _ _ _ h => h) (Or.inl ⟨by rfl, ?_⟩) ?_ ?_
            rotate_left
            ·intro w'
             go_simp
             with_reducible rfl
            rotate_left
            ·simp only [Act.put, List.setIfInBounds_toArray, List.set_cons_zero, List.set_cons_succ, i64_w, i32_w]
             rfl
            refine pure_ (i := 2) (N := some 63) (v := ?_) (a' := ?_) #[true, true, true, false, false, false, false, false, false, false, false, false, false] rfl rfl (any_of HT_.out (by kernel_rfl)) (fun _ _ _ h => h) (Or.inl ⟨by rfl, ?_⟩) ?_ ?_
            rotate_left
            ·intro w'
             go_simp
             with_reducible rfl
            rotate_left
            ·simp only [Act.put, List.setIfInBounds_toArray, List.set_cons_zero, List.set_cons_succ, i64_w, i32_w]
             rfl
            refine pure_ (i := 3) (N := some 64) (v := ?_) (a' := ?_) #[true, true, true, true, false, false, false, false, false, false, false, false, false] rfl rfl (any_of HT_.out (by kernel_rfl)) (fun _ _ _ h => h) (Or.inl ⟨by rfl, ?_⟩) ?_ ?_
            rotate_left
            ·intro w'
             go_simp
             with_reducible rfl
            rotate_left
            ·simp only [Act.put, List.setIfInBounds_toArray, List.set_cons_zero, List.set_cons_succ, i64_w, i32_w]
             rfl
            refine pure_ (i := 5) (N := some 66) (v := ?_) (a' := ?_) #[true, true, true, true, false, true, false, false, false, false, false, false, false] rfl rfl (any_of HT_.out (by kernel_rfl)) (fun _ _ _ h => h) (Or.inl ⟨by rfl, ?_⟩) ?_ ?_
            rotate_left
            ·intro w'
             go_simp
             with_reducible rfl
            rotate_left
            ·simp only [Act.put, List.setIfInBounds_toArray, List.set_cons_zero, List.set_cons_succ, i64_w, i32_w]
             rfl
            refine pure_ (i := 6) (N := some 67) (v := ?_) (a' := ?_) #[true, true, true, true, false, true, true, false, false, false, false, false, false] rfl rfl (any_of HT_.out (by kernel_rfl)) (fun _ _ _ h => h) (Or.inl ⟨by rfl, ?_⟩) ?_ ?_
            rotate_left
            ·intro w'
             go_simp
             with_reducible rfl
            rotate_left
            ·simp only [Act.put, List.setIfInBounds_toArray, List.set_cons_zero, List.set_cons_succ, i64_w, i32_w]
             rfl
            refine pure_ (i := 7) (N := some 68) (v := ?_) (a' := ?_) #[true, true, true, true, false, true, true, true, false, false, false, false, false] rfl rfl (any_of HT_.out (by kernel_rfl)) (fun _ _ _ h => h) (Or.inl ⟨by rfl, ?_⟩) ?_ ?_
            rotate_left
            ·intro w'
             go_simp
             with_reducible rfl
            rotate_left
            ·simp only [Act.put, List.setIfInBounds_toArray, List.set_cons_zero, List.set_cons_succ, i64_w, i32_w]
             rfl
            refine take_ (i := 4) (N := some 65) (v := ?_) (a' := ?_) #[true, true, true, true, true, true, true, true, false, false, false, false, false] rfl rfl (take_ofW HT_.out HW_.out (by kernel_rfl)) (fun _ _ _ h => h) (Or.inl ⟨by rfl, ?_⟩) hHeld ?_ ?_
            rotate_left
            ·rintro w' ⟨s0, s1, s2, s3, s4, s5⟩
             go_simp
             with_reducible rfl
            rotate_left
            ·simp only [Act.put, List.setIfInBounds_toArray, List.set_cons_zero, List.set_cons_succ, i64_w, i32_w]
             rfl
            refine take_ (i := 8) (N := some 69) (v := ?_) (a' := ?_) #[true, true, true, true, true, true, true, true, true, false, false, false, false] rfl rfl (take_ofW HT_.out HW_.out (by kernel_rfl)) (fun _ _ _ h => h) (Or.inl ⟨by rfl, ?_⟩) hHeld ?_ ?_
            rotate_left
            ·rintro w' ⟨s0, s1, s2, s3, s4, s5⟩
             go_simp
             with_reducible rfl
            rotate_left
            ·simp only [Act.put, List.setIfInBounds_toArray, List.set_cons_zero, List.set_cons_succ, i64_w, i32_w]
             rfl
            refine join_ (σ := Nat × Nat) 2 #[true, true, true, true, true, true, true, true, true, true, true, false, false] (fun s_ => [(8, .pointer (some ⟨s_.1, 0, none⟩)), (9, .pointer (some ⟨s_.2, 0, none⟩))]) (fun s_ w' => (w'.cell? (ad326.add (((ji27)).toNat * 3)) = some (.int .i64 ((rd_T60 l1 (ji27)).f0.f0)) ∧ w'.cell? ⟨(ad326.add (((ji27)).toNat * 3)).block, (ad326.add (((ji27)).toNat * 3)).off + 1, none⟩ = some (.int .i64 ((rd_T60 l1 (ji27)).f0.f1)) ∧ w'.cell? ⟨(ad326.add (((ji27)).toNat * 3)).block, (ad326.add (((ji27)).toNat * 3)).off + 2, none⟩ = some (.string ((rd_T60 l1 (ji27)).f1)) ∧ w'.cell? (ad326.add ((x7_2).toNat * 3)) = some (.int .i64 ((rd_T60 l1 x7_2).f0.f0)) ∧ w'.cell? ⟨(ad326.add ((x7_2).toNat * 3)).block, (ad326.add ((x7_2).toNat * 3)).off + 1, none⟩ = some (.int .i64 ((rd_T60 l1 x7_2).f0.f1)) ∧ w'.cell? ⟨(ad326.add ((x7_2).toNat * 3)).block, (ad326.add ((x7_2).toNat * 3)).off + 2, none⟩ = some (.string ((rd_T60 l1 x7_2).f1))) ∧ (w'.heap[s_.1]? = some (.cells #[.int .i64 0, .int .i64 0, .string (⟨#[]⟩ : ByteArray)] 60 (0, 0))) ∧ (w'.heap[s_.2]? = some (.cells #[.int .i64 0, .int .i64 0, .string (⟨#[]⟩ : ByteArray)] 60 (0, 0))) ∧ (w.heap.size ≤ s_.1) ∧ (w.heap.size ≤ s_.1) ∧ (s_.2 ≠ s_.1) ∧ (s_.1 ≠ s_.2) ∧ (w.heap.size ≤ s_.2) ∧ (w.heap.size ≤ s_.2) ∧ (Below w.heap.size w w')) ?_ ?_
            rotate_left
            ·intro hCont
             refine two_ (i := 9) (j := 10) (Ni := some 8) (Nj := some 9) #[true, true, true, true, true, true, true, true, true, true, false, false, false] #[true, true, true, true, true, true, true, true, true, false, true, false, false] rfl rfl rfl rfl (two_of HT_.out (by kernel_rfl)) (by decide) (by decide) (fun K hK => ?_) (fun K hK => ?_)
             ·skip
              refine box_step ?hg (N := 8) ?hd (cs := #[.int .i64 0, .int .i64 0, .string (⟨#[]⟩ : ByteArray)]) (t := 60) ?hr ?_; (case hd => rfl); (case hg => rfl); (case hr => first | (go_simp; done) | (go_simp; rfl))
              intro gb328 hg w33 hbox hb
              have n0_ := pxs HB hb
              have n1_ := Aside0.mk (hbox)
              have n2_ := Aside0.mk ((by rw [hg]; exact (below_size (pxb HB)) : w.heap.size ≤ gb328))
              have n3_ := Aside0.mk ((by rw [hg]; exact (below_size (pxb HB)) : w.heap.size ≤ gb328))
              clear HB
              have HB := n0_
              have BK328 := n1_
              have GW328 := n2_
              have GE328 := n3_
              clear n0_ n1_ n2_ n3_
              clear hb hbox hg
              refine hK.out _ _ ⟨((HB.out.cell (World.block_lt_of_cell? w _ hw326_0)).trans hw326_0), ((HB.out.cell (World.block_lt_of_cell? w _ hw326_1)).trans hw326_1), ((HB.out.cell (World.block_lt_of_cell? w _ hw326_2)).trans hw326_2), ((HB.out.cell (World.block_lt_of_cell? w _ hw327_0)).trans hw327_0), ((HB.out.cell (World.block_lt_of_cell? w _ hw327_1)).trans hw327_1), ((HB.out.cell (World.block_lt_of_cell? w _ hw327_2)).trans hw327_2)⟩ (fun hHeld => ?_)
              clear hK K
              refine norm_ (a' := ?_) ?_ ?_
              rotate_left
              ·show Act.put _ (some 8) _ = _
               simp only [Act.put, List.setIfInBounds_toArray, List.set_cons_zero, List.set_cons_succ, i64_w, i32_w]
               rfl
              refine one_ (i := 10) (N := some 9) #[true, true, true, true, true, true, true, true, true, true, true, false, false] rfl rfl (one_of HT_.out (by kernel_rfl)) (by decide) (fun K hK => ?_)
              refine box_step ?hg (N := 9) ?hd (cs := #[.int .i64 0, .int .i64 0, .string (⟨#[]⟩ : ByteArray)]) (t := 60) ?hr ?_; (case hd => rfl); (case hg => rfl); (case hr => first | (go_simp; done) | (go_simp; rfl))
              intro gb329 hg w34 hbox hb
              have n0_ := pxk BK328 hb
              have n1_ := pxs HB hb
              have n2_ := Aside0.mk (hbox)
              have n3_ := Aside0.mk ((by rw [hg]; exact (below_size (pxb HB)) : w.heap.size ≤ gb329))
              have n4_ := Aside0.mk ((by rw [hg]; exact (below_size (pxb HB)) : w.heap.size ≤ gb329))
              have n5_ := Aside0.mk ((by rw [hg]; exact Nat.ne_of_lt (blk_lt (g := gb328) (o := .cells #[.int .i64 0, .int .i64 0, .string (⟨#[]⟩ : ByteArray)] 60 (0, 0)) (pxq BK328)) : gb328 ≠ gb329))
              have n6_ := Aside0.mk ((by rw [hg]; exact Nat.ne_of_gt (blk_lt (g := gb328) (o := .cells #[.int .i64 0, .int .i64 0, .string (⟨#[]⟩ : ByteArray)] 60 (0, 0)) (pxq BK328)) : gb329 ≠ gb328))
              clear BK328
              clear HB
              have BK328 := n0_
              have HB := n1_
              have BK329 := n2_
              have GW329 := n3_
              have GE329 := n4_
              have NB328_329 := n5_
              have NB329_328 := n6_
              clear n0_ n1_ n2_ n3_ n4_ n5_ n6_
              clear hb hbox hg
              refine hK.out _ _ ⟨((HB.out.cell (World.block_lt_of_cell? w _ hw326_0)).trans hw326_0), ((HB.out.cell (World.block_lt_of_cell? w _ hw326_1)).trans hw326_1), ((HB.out.cell (World.block_lt_of_cell? w _ hw326_2)).trans hw326_2), ((HB.out.cell (World.block_lt_of_cell? w _ hw327_0)).trans hw327_0), ((HB.out.cell (World.block_lt_of_cell? w _ hw327_1)).trans hw327_1), ((HB.out.cell (World.block_lt_of_cell? w _ hw327_2)).trans hw327_2)⟩ (fun hHeld => ?_)
              clear hK K
              refine norm_ (a' := ?_) ?_ ?_
              rotate_left
              ·show Act.put _ (some 9) _ = _
               simp only [Act.put, List.setIfInBounds_toArray, List.set_cons_zero, List.set_cons_succ, i64_w, i32_w]
               rfl
              exact norm_ (by simp only [putAll, Act.put, List.setIfInBounds_toArray, List.set_cons_zero, List.set_cons_succ]) (hCont (gb328, gb329) _ ⟨hHeld, (pxq BK328), (pxq BK329), GW328.out, GE328.out, NB329_328.out, NB328_329.out, GW329.out, GE329.out, (pxb HB)⟩)
             ·skip
              refine box_step ?hg (N := 9) ?hd (cs := #[.int .i64 0, .int .i64 0, .string (⟨#[]⟩ : ByteArray)]) (t := 60) ?hr ?_; (case hd => rfl); (case hg => rfl); (case hr => first | (go_simp; done) | (go_simp; rfl))
              intro gb329 hg w33 hbox hb
              have n0_ := pxs HB hb
              have n1_ := Aside0.mk (hbox)
              have n2_ := Aside0.mk ((by rw [hg]; exact (below_size (pxb HB)) : w.heap.size ≤ gb329))
              have n3_ := Aside0.mk ((by rw [hg]; exact (below_size (pxb HB)) : w.heap.size ≤ gb329))
              clear HB
              have HB := n0_
              have BK329 := n1_
              have GW329 := n2_
              have GE329 := n3_
              clear n0_ n1_ n2_ n3_
              clear hb hbox hg
              refine hK.out _ _ ⟨((HB.out.cell (World.block_lt_of_cell? w _ hw326_0)).trans hw326_0), ((HB.out.cell (World.block_lt_of_cell? w _ hw326_1)).trans hw326_1), ((HB.out.cell (World.block_lt_of_cell? w _ hw326_2)).trans hw326_2), ((HB.out.cell (World.block_lt_of_cell? w _ hw327_0)).trans hw327_0), ((HB.out.cell (World.block_lt_of_cell? w _ hw327_1)).trans hw327_1), ((HB.out.cell (World.block_lt_of_cell? w _ hw327_2)).trans hw327_2)⟩ (fun hHeld => ?_)
              clear hK K
              refine norm_ (a' := ?_) ?_ ?_
              rotate_left
              ·show Act.put _ (some 9) _ = _
               simp only [Act.put, List.setIfInBounds_toArray, List.set_cons_zero, List.set_cons_succ, i64_w, i32_w]
               rfl
              refine one_ (i := 9) (N := some 8) #[true, true, true, true, true, true, true, true, true, true, true, false, false] rfl rfl (one_of HT_.out (by kernel_rfl)) (by decide) (fun K hK => ?_)
              refine box_step ?hg (N := 8) ?hd (cs := #[.int .i64 0, .int .i64 0, .string (⟨#[]⟩ : ByteArray)]) (t := 60) ?hr ?_; (case hd => rfl); (case hg => rfl); (case hr => first | (go_simp; done) | (go_simp; rfl))
              intro gb328 hg w34 hbox hb
              have n0_ := pxk BK329 hb
              have n1_ := pxs HB hb
              have n2_ := Aside0.mk (hbox)
              have n3_ := Aside0.mk ((by rw [hg]; exact (below_size (pxb HB)) : w.heap.size ≤ gb328))
              have n4_ := Aside0.mk ((by rw [hg]; exact (below_size (pxb HB)) : w.heap.size ≤ gb328))
              have n5_ := Aside0.mk ((by rw [hg]; exact Nat.ne_of_lt (blk_lt (g := gb329) (o := .cells #[.int .i64 0, .int .i64 0, .string (⟨#[]⟩ : ByteArray)] 60 (0, 0)) (pxq BK329)) : gb329 ≠ gb328))
              have n6_ := Aside0.mk ((by rw [hg]; exact Nat.ne_of_gt (blk_lt (g := gb329) (o := .cells #[.int .i64 0, .int .i64 0, .string (⟨#[]⟩ : ByteArray)] 60 (0, 0)) (pxq BK329)) : gb328 ≠ gb329))
              clear BK329
              clear HB
              have BK329 := n0_
              have HB := n1_
              have BK328 := n2_
              have GW328 := n3_
              have GE328 := n4_
              have NB329_328 := n5_
              have NB328_329 := n6_
              clear n0_ n1_ n2_ n3_ n4_ n5_ n6_
              clear hb hbox hg
              refine hK.out _ _ ⟨((HB.out.cell (World.block_lt_of_cell? w _ hw326_0)).trans hw326_0), ((HB.out.cell (World.block_lt_of_cell? w _ hw326_1)).trans hw326_1), ((HB.out.cell (World.block_lt_of_cell? w _ hw326_2)).trans hw326_2), ((HB.out.cell (World.block_lt_of_cell? w _ hw327_0)).trans hw327_0), ((HB.out.cell (World.block_lt_of_cell? w _ hw327_1)).trans hw327_1), ((HB.out.cell (World.block_lt_of_cell? w _ hw327_2)).trans hw327_2)⟩ (fun hHeld => ?_)
              clear hK K
              refine norm_ (a' := ?_) ?_ ?_
              rotate_left
              ·show Act.put _ (some 8) _ = _
               simp only [Act.put, List.setIfInBounds_toArray, List.set_cons_zero, List.set_cons_succ, i64_w, i32_w]
               rfl
              exact norm_ (by simp only [putAll, Act.put, List.setIfInBounds_toArray, List.set_cons_zero, List.set_cons_succ]) (hCont (gb328, gb329) _ ⟨hHeld, (pxq BK328), (pxq BK329), GW328.out, GE328.out, NB329_328.out, NB328_329.out, GW329.out, GE329.out, (pxb HB)⟩)
            rintro ⟨gb328, gb329⟩ w35 ⟨hS_, h0_, h1_, h2_, h3_, h4_, h5_, h6_, h7_, h8_⟩
            have n0_ : Aside0 (w35.heap[gb328]? = some (.cells #[.int .i64 0, .int .i64 0, .string (⟨#[]⟩ : ByteArray)] 60 (0, 0))) := ⟨h0_⟩
            have n1_ : Aside0 (w35.heap[gb329]? = some (.cells #[.int .i64 0, .int .i64 0, .string (⟨#[]⟩ : ByteArray)] 60 (0, 0))) := ⟨h1_⟩
            have n2_ : Aside0 (w.heap.size ≤ gb328) := ⟨h2_⟩
            have n3_ : Aside0 (w.heap.size ≤ gb328) := ⟨h3_⟩
            have n4_ : Aside0 (gb329 ≠ gb328) := ⟨h4_⟩
            have n5_ : Aside0 (gb328 ≠ gb329) := ⟨h5_⟩
            have n6_ : Aside0 (w.heap.size ≤ gb329) := ⟨h6_⟩
            have n7_ : Aside0 (w.heap.size ≤ gb329) := ⟨h7_⟩
            have n8_ : Aside0 (Below w.heap.size w w35) := ⟨h8_⟩
            clear HB
            clear h0_ h1_ h2_ h3_ h4_ h5_ h6_ h7_ h8_
            have BK328 := n0_
            have BK329 := n1_
            have GW328 := n2_
            have GE328 := n3_
            have NB329_328 := n4_
            have NB328_329 := n5_
            have GW329 := n6_
            have GE329 := n7_
            have HB := n8_
            clear n0_ n1_ n2_ n3_ n4_ n5_ n6_ n7_ n8_
            have hHeld : w35.cell? (ad326.add (((ji27)).toNat * 3)) = some (.int .i64 ((rd_T60 l1 (ji27)).f0.f0)) ∧ w35.cell? ⟨(ad326.add (((ji27)).toNat * 3)).block, (ad326.add (((ji27)).toNat * 3)).off + 1, none⟩ = some (.int .i64 ((rd_T60 l1 (ji27)).f0.f1)) ∧ w35.cell? ⟨(ad326.add (((ji27)).toNat * 3)).block, (ad326.add (((ji27)).toNat * 3)).off + 2, none⟩ = some (.string ((rd_T60 l1 (ji27)).f1)) ∧ w35.cell? (ad326.add ((x7_2).toNat * 3)) = some (.int .i64 ((rd_T60 l1 x7_2).f0.f0)) ∧ w35.cell? ⟨(ad326.add ((x7_2).toNat * 3)).block, (ad326.add ((x7_2).toNat * 3)).off + 1, none⟩ = some (.int .i64 ((rd_T60 l1 x7_2).f0.f1)) ∧ w35.cell? ⟨(ad326.add ((x7_2).toNat * 3)).block, (ad326.add ((x7_2).toNat * 3)).off + 2, none⟩ = some (.string ((rd_T60 l1 x7_2).f1)) := hS_
            refine norm_ (a' := ?_) ?_ ?_
            rotate_left
            ·simp only [putAll, Act.put, List.setIfInBounds_toArray, List.set_cons_zero, List.set_cons_succ]
             rfl
            refine one_ (i := 11) (N := none) #[true, true, true, true, true, true, true, true, true, true, true, true, false] rfl rfl (one_of HT_.out (by kernel_rfl)) (by decide) (fun K hK => ?_)
            have hs36 : w35.cell? ⟨gb328, 0, none⟩ = some (.int .i64 0) := (blk_cell BK328.out 0).trans rfl
            have hfs36 := blk_frozen BK328.out 0
            have hns36_1 := NB329_328.out
            have hms36_1 := NB328_329.out
            have hs37 : w35.cell? ⟨gb328, 1, none⟩ = some (.int .i64 0) := (blk_cell BK328.out 1).trans rfl
            have hfs37 := blk_frozen BK328.out 1
            have hns37_1 := NB329_328.out
            have hms37_1 := NB328_329.out
            have hs38 : w35.cell? ⟨gb328, 2, none⟩ = some (.string (⟨#[]⟩ : ByteArray)) := (blk_cell BK328.out 2).trans rfl
            have hfs38 := blk_frozen BK328.out 2
            have hns38_1 := NB329_328.out
            have hms38_1 := NB328_329.out
            refine skip_ (w1 := ?_) (by rfl) rfl ?_ ?_
            rotate_left
            ·go_simp
             rfl
            refine hK.out _ _ ⟨((cell_far (p := ⟨gb328, _, none⟩) (by first | exact Nat.ne_of_lt (Nat.lt_of_lt_of_le (by have := World.block_lt_of_cell? _ _ hw326_0; first | rwa [add_block] at this | exact this) GW328.out) | (rw [add_block]; exact Nat.ne_of_lt (Nat.lt_of_lt_of_le (by have := World.block_lt_of_cell? _ _ hw326_0; first | rwa [add_block] at this | exact this) GW328.out)) | (show (Addr.add _ _).block ≠ _; rw [add_block]; exact Nat.ne_of_lt (Nat.lt_of_lt_of_le (by have := World.block_lt_of_cell? _ _ hw326_0; first | rwa [add_block] at this | exact this) GW328.out)) | (dsimp only; exact Nat.ne_of_lt (Nat.lt_of_lt_of_le (by have := World.block_lt_of_cell? _ _ hw326_0; first | rwa [add_block] at this | exact this) GW328.out))) _).trans (((cell_far (p := ⟨gb328, _, none⟩) (by first | exact Nat.ne_of_lt (Nat.lt_of_lt_of_le (by have := World.block_lt_of_cell? _ _ hw326_0; first | rwa [add_block] at this | exact this) GW328.out) | (rw [add_block]; exact Nat.ne_of_lt (Nat.lt_of_lt_of_le (by have := World.block_lt_of_cell? _ _ hw326_0; first | rwa [add_block] at this | exact this) GW328.out)) | (show (Addr.add _ _).block ≠ _; rw [add_block]; exact Nat.ne_of_lt (Nat.lt_of_lt_of_le (by have := World.block_lt_of_cell? _ _ hw326_0; first | rwa [add_block] at this | exact this) GW328.out)) | (dsimp only; exact Nat.ne_of_lt (Nat.lt_of_lt_of_le (by have := World.block_lt_of_cell? _ _ hw326_0; first | rwa [add_block] at this | exact this) GW328.out))) _).trans (((cell_far (p := ⟨gb328, _, none⟩) (by first | exact Nat.ne_of_lt (Nat.lt_of_lt_of_le (by have := World.block_lt_of_cell? _ _ hw326_0; first | rwa [add_block] at this | exact this) GW328.out) | (rw [add_block]; exact Nat.ne_of_lt (Nat.lt_of_lt_of_le (by have := World.block_lt_of_cell? _ _ hw326_0; first | rwa [add_block] at this | exact this) GW328.out)) | (show (Addr.add _ _).block ≠ _; rw [add_block]; exact Nat.ne_of_lt (Nat.lt_of_lt_of_le (by have := World.block_lt_of_cell? _ _ hw326_0; first | rwa [add_block] at this | exact this) GW328.out)) | (dsimp only; exact Nat.ne_of_lt (Nat.lt_of_lt_of_le (by have := World.block_lt_of_cell? _ _ hw326_0; first | rwa [add_block] at this | exact this) GW328.out))) _).trans (hHeld.1)))))), ((cell_far (p := ⟨gb328, _, none⟩) (by first | exact Nat.ne_of_lt (Nat.lt_of_lt_of_le (by have := World.block_lt_of_cell? _ _ hw326_1; first | rwa [add_block] at this | exact this) GW328.out) | (rw [add_block]; exact Nat.ne_of_lt (Nat.lt_of_lt_of_le (by have := World.block_lt_of_cell? _ _ hw326_1; first | rwa [add_block] at this | exact this) GW328.out)) | (show (Addr.add _ _).block ≠ _; rw [add_block]; exact Nat.ne_of_lt (Nat.lt_of_lt_of_le (by have := World.block_lt_of_cell? _ _ hw326_1; first | rwa [add_block] at this | exact this) GW328.out)) | (dsimp only; exact Nat.ne_of_lt (Nat.lt_of_lt_of_le (by have := World.block_lt_of_cell? _ _ hw326_1; first | rwa [add_block] at this | exact this) GW328.out))) _).trans (((cell_far (p := ⟨gb328, _, none⟩) (by first | exact Nat.ne_of_lt (Nat.lt_of_lt_of_le (by have := World.block_lt_of_cell? _ _ hw326_1; first | rwa [add_block] at this | exact this) GW328.out) | (rw [add_block]; exact Nat.ne_of_lt (Nat.lt_of_lt_of_le (by have := World.block_lt_of_cell? _ _ hw326_1; first | rwa [add_block] at this | exact this) GW328.out)) | (show (Addr.add _ _).block ≠ _; rw [add_block]; exact Nat.ne_of_lt (Nat.lt_of_lt_of_le (by have := World.block_lt_of_cell? _ _ hw326_1; first | rwa [add_block] at this | exact this) GW328.out)) | (dsimp only; exact Nat.ne_of_lt (Nat.lt_of_lt_of_le (by have := World.block_lt_of_cell? _ _ hw326_1; first | rwa [add_block] at this | exact this) GW328.out))) _).trans (((cell_far (p := ⟨gb328, _, none⟩) (by first | exact Nat.ne_of_lt (Nat.lt_of_lt_of_le (by have := World.block_lt_of_cell? _ _ hw326_1; first | rwa [add_block] at this | exact this) GW328.out) | (rw [add_block]; exact Nat.ne_of_lt (Nat.lt_of_lt_of_le (by have := World.block_lt_of_cell? _ _ hw326_1; first | rwa [add_block] at this | exact this) GW328.out)) | (show (Addr.add _ _).block ≠ _; rw [add_block]; exact Nat.ne_of_lt (Nat.lt_of_lt_of_le (by have := World.block_lt_of_cell? _ _ hw326_1; first | rwa [add_block] at this | exact this) GW328.out)) | (dsimp only; exact Nat.ne_of_lt (Nat.lt_of_lt_of_le (by have := World.block_lt_of_cell? _ _ hw326_1; first | rwa [add_block] at this | exact this) GW328.out))) _).trans (hHeld.2.1)))))), ((cell_far (p := ⟨gb328, _, none⟩) (by first | exact Nat.ne_of_lt (Nat.lt_of_lt_of_le (by have := World.block_lt_of_cell? _ _ hw326_2; first | rwa [add_block] at this | exact this) GW328.out) | (rw [add_block]; exact Nat.ne_of_lt (Nat.lt_of_lt_of_le (by have := World.block_lt_of_cell? _ _ hw326_2; first | rwa [add_block] at this | exact this) GW328.out)) | (show (Addr.add _ _).block ≠ _; rw [add_block]; exact Nat.ne_of_lt (Nat.lt_of_lt_of_le (by have := World.block_lt_of_cell? _ _ hw326_2; first | rwa [add_block] at this | exact this) GW328.out)) | (dsimp only; exact Nat.ne_of_lt (Nat.lt_of_lt_of_le (by have := World.block_lt_of_cell? _ _ hw326_2; first | rwa [add_block] at this | exact this) GW328.out))) _).trans (((cell_far (p := ⟨gb328, _, none⟩) (by first | exact Nat.ne_of_lt (Nat.lt_of_lt_of_le (by have := World.block_lt_of_cell? _ _ hw326_2; first | rwa [add_block] at this | exact this) GW328.out) | (rw [add_block]; exact Nat.ne_of_lt (Nat.lt_of_lt_of_le (by have := World.block_lt_of_cell? _ _ hw326_2; first | rwa [add_block] at this | exact this) GW328.out)) | (show (Addr.add _ _).block ≠ _; rw [add_block]; exact Nat.ne_of_lt (Nat.lt_of_lt_of_le (by have := World.block_lt_of_cell? _ _ hw326_2; first | rwa [add_block] at this | exact this) GW328.out)) | (dsimp only; exact Nat.ne_of_lt (Nat.lt_of_lt_of_le (by have := World.block_lt_of_cell? _ _ hw326_2; first | rwa [add_block] at this | exact this) GW328.out))) _).trans (((cell_far (p := ⟨gb328, _, none⟩) (by first | exact Nat.ne_of_lt (Nat.lt_of_lt_of_le (by have := World.block_lt_of_cell? _ _ hw326_2; first | rwa [add_block] at this | exact this) GW328.out) | (rw [add_block]; exact Nat.ne_of_lt (Nat.lt_of_lt_of_le (by have := World.block_lt_of_cell? _ _ hw326_2; first | rwa [add_block] at this | exact this) GW328.out)) | (show (Addr.add _ _).block ≠ _; rw [add_block]; exact Nat.ne_of_lt (Nat.lt_of_lt_of_le (by have := World.block_lt_of_cell? _ _ hw326_2; first | rwa [add_block] at this | exact this) GW328.out)) | (dsimp only; exact Nat.ne_of_lt (Nat.lt_of_lt_of_le (by have := World.block_lt_of_cell? _ _ hw326_2; first | rwa [add_block] at this | exact this) GW328.out))) _).trans (hHeld.2.2.1)))))), ((cell_far (p := ⟨gb328, _, none⟩) (by first | exact Nat.ne_of_lt (Nat.lt_of_lt_of_le (by have := World.block_lt_of_cell? _ _ hw327_0; first | rwa [add_block] at this | exact this) GW328.out) | (rw [add_block]; exact Nat.ne_of_lt (Nat.lt_of_lt_of_le (by have := World.block_lt_of_cell? _ _ hw327_0; first | rwa [add_block] at this | exact this) GW328.out)) | (show (Addr.add _ _).block ≠ _; rw [add_block]; exact Nat.ne_of_lt (Nat.lt_of_lt_of_le (by have := World.block_lt_of_cell? _ _ hw327_0; first | rwa [add_block] at this | exact this) GW328.out)) | (dsimp only; exact Nat.ne_of_lt (Nat.lt_of_lt_of_le (by have := World.block_lt_of_cell? _ _ hw327_0; first | rwa [add_block] at this | exact this) GW328.out))) _).trans (((cell_far (p := ⟨gb328, _, none⟩) (by first | exact Nat.ne_of_lt (Nat.lt_of_lt_of_le (by have := World.block_lt_of_cell? _ _ hw327_0; first | rwa [add_block] at this | exact this) GW328.out) | (rw [add_block]; exact Nat.ne_of_lt (Nat.lt_of_lt_of_le (by have := World.block_lt_of_cell? _ _ hw327_0; first | rwa [add_block] at this | exact this) GW328.out)) | (show (Addr.add _ _).block ≠ _; rw [add_block]; exact Nat.ne_of_lt (Nat.lt_of_lt_of_le (by have := World.block_lt_of_cell? _ _ hw327_0; first | rwa [add_block] at this | exact this) GW328.out)) | (dsimp only; exact Nat.ne_of_lt (Nat.lt_of_lt_of_le (by have := World.block_lt_of_cell? _ _ hw327_0; first | rwa [add_block] at this | exact this) GW328.out))) _).trans (((cell_far (p := ⟨gb328, _, none⟩) (by first | exact Nat.ne_of_lt (Nat.lt_of_lt_of_le (by have := World.block_lt_of_cell? _ _ hw327_0; first | rwa [add_block] at this | exact this) GW328.out) | (rw [add_block]; exact Nat.ne_of_lt (Nat.lt_of_lt_of_le (by have := World.block_lt_of_cell? _ _ hw327_0; first | rwa [add_block] at this | exact this) GW328.out)) | (show (Addr.add _ _).block ≠ _; rw [add_block]; exact Nat.ne_of_lt (Nat.lt_of_lt_of_le (by have := World.block_lt_of_cell? _ _ hw327_0; first | rwa [add_block] at this | exact this) GW328.out)) | (dsimp only; exact Nat.ne_of_lt (Nat.lt_of_lt_of_le (by have := World.block_lt_of_cell? _ _ hw327_0; first | rwa [add_block] at this | exact this) GW328.out))) _).trans (hHeld.2.2.2.1)))))), ((cell_far (p := ⟨gb328, _, none⟩) (by first | exact Nat.ne_of_lt (Nat.lt_of_lt_of_le (by have := World.block_lt_of_cell? _ _ hw327_1; first | rwa [add_block] at this | exact this) GW328.out) | (rw [add_block]; exact Nat.ne_of_lt (Nat.lt_of_lt_of_le (by have := World.block_lt_of_cell? _ _ hw327_1; first | rwa [add_block] at this | exact this) GW328.out)) | (show (Addr.add _ _).block ≠ _; rw [add_block]; exact Nat.ne_of_lt (Nat.lt_of_lt_of_le (by have := World.block_lt_of_cell? _ _ hw327_1; first | rwa [add_block] at this | exact this) GW328.out)) | (dsimp only; exact Nat.ne_of_lt (Nat.lt_of_lt_of_le (by have := World.block_lt_of_cell? _ _ hw327_1; first | rwa [add_block] at this | exact this) GW328.out))) _).trans (((cell_far (p := ⟨gb328, _, none⟩) (by first | exact Nat.ne_of_lt (Nat.lt_of_lt_of_le (by have := World.block_lt_of_cell? _ _ hw327_1; first | rwa [add_block] at this | exact this) GW328.out) | (rw [add_block]; exact Nat.ne_of_lt (Nat.lt_of_lt_of_le (by have := World.block_lt_of_cell? _ _ hw327_1; first | rwa [add_block] at this | exact this) GW328.out)) | (show (Addr.add _ _).block ≠ _; rw [add_block]; exact Nat.ne_of_lt (Nat.lt_of_lt_of_le (by have := World.block_lt_of_cell? _ _ hw327_1; first | rwa [add_block] at this | exact this) GW328.out)) | (dsimp only; exact Nat.ne_of_lt (Nat.lt_of_lt_of_le (by have := World.block_lt_of_cell? _ _ hw327_1; first | rwa [add_block] at this | exact this) GW328.out))) _).trans (((cell_far (p := ⟨gb328, _, none⟩) (by first | exact Nat.ne_of_lt (Nat.lt_of_lt_of_le (by have := World.block_lt_of_cell? _ _ hw327_1; first | rwa [add_block] at this | exact this) GW328.out) | (rw [add_block]; exact Nat.ne_of_lt (Nat.lt_of_lt_of_le (by have := World.block_lt_of_cell? _ _ hw327_1; first | rwa [add_block] at this | exact this) GW328.out)) | (show (Addr.add _ _).block ≠ _; rw [add_block]; exact Nat.ne_of_lt (Nat.lt_of_lt_of_le (by have := World.block_lt_of_cell? _ _ hw327_1; first | rwa [add_block] at this | exact this) GW328.out)) | (dsimp only; exact Nat.ne_of_lt (Nat.lt_of_lt_of_le (by have := World.block_lt_of_cell? _ _ hw327_1; first | rwa [add_block] at this | exact this) GW328.out))) _).trans (hHeld.2.2.2.2.1)))))), ((cell_far (p := ⟨gb328, _, none⟩) (by first | exact Nat.ne_of_lt (Nat.lt_of_lt_of_le (by have := World.block_lt_of_cell? _ _ hw327_2; first | rwa [add_block] at this | exact this) GW328.out) | (rw [add_block]; exact Nat.ne_of_lt (Nat.lt_of_lt_of_le (by have := World.block_lt_of_cell? _ _ hw327_2; first | rwa [add_block] at this | exact this) GW328.out)) | (show (Addr.add _ _).block ≠ _; rw [add_block]; exact Nat.ne_of_lt (Nat.lt_of_lt_of_le (by have := World.block_lt_of_cell? _ _ hw327_2; first | rwa [add_block] at this | exact this) GW328.out)) | (dsimp only; exact Nat.ne_of_lt (Nat.lt_of_lt_of_le (by have := World.block_lt_of_cell? _ _ hw327_2; first | rwa [add_block] at this | exact this) GW328.out))) _).trans (((cell_far (p := ⟨gb328, _, none⟩) (by first | exact Nat.ne_of_lt (Nat.lt_of_lt_of_le (by have := World.block_lt_of_cell? _ _ hw327_2; first | rwa [add_block] at this | exact this) GW328.out) | (rw [add_block]; exact Nat.ne_of_lt (Nat.lt_of_lt_of_le (by have := World.block_lt_of_cell? _ _ hw327_2; first | rwa [add_block] at this | exact this) GW328.out)) | (show (Addr.add _ _).block ≠ _; rw [add_block]; exact Nat.ne_of_lt (Nat.lt_of_lt_of_le (by have := World.block_lt_of_cell? _ _ hw327_2; first | rwa [add_block] at this | exact this) GW328.out)) | (dsimp only; exact Nat.ne_of_lt (Nat.lt_of_lt_of_le (by have := World.block_lt_of_cell? _ _ hw327_2; first | rwa [add_block] at this | exact this) GW328.out))) _).trans (((cell_far (p := ⟨gb328, _, none⟩) (by first | exact Nat.ne_of_lt (Nat.lt_of_lt_of_le (by have := World.block_lt_of_cell? _ _ hw327_2; first | rwa [add_block] at this | exact this) GW328.out) | (rw [add_block]; exact Nat.ne_of_lt (Nat.lt_of_lt_of_le (by have := World.block_lt_of_cell? _ _ hw327_2; first | rwa [add_block] at this | exact this) GW328.out)) | (show (Addr.add _ _).block ≠ _; rw [add_block]; exact Nat.ne_of_lt (Nat.lt_of_lt_of_le (by have := World.block_lt_of_cell? _ _ hw327_2; first | rwa [add_block] at this | exact this) GW328.out)) | (dsimp only; exact Nat.ne_of_lt (Nat.lt_of_lt_of_le (by have := World.block_lt_of_cell? _ _ hw327_2; first | rwa [add_block] at this | exact this) GW328.out))) _).trans (hHeld.2.2.2.2.2))))))⟩ (fun hHeld => ?_)
            clear hK K
            refine one_ (i := 12) (N := none) #[true, true, true, true, true, true, true, true, true, true, true, true, true] rfl rfl (one_of HT_.out (by kernel_rfl)) (by decide) (fun K hK => ?_)
            have hs39 : w35.cell? ⟨gb329, 0, none⟩ = some (.int .i64 0) := (blk_cell BK329.out 0).trans rfl
            have hfs39 := blk_frozen BK329.out 0
            have hns39_0 := NB328_329.out
            have hms39_0 := NB329_328.out
            have hs40 : w35.cell? ⟨gb329, 1, none⟩ = some (.int .i64 0) := (blk_cell BK329.out 1).trans rfl
            have hfs40 := blk_frozen BK329.out 1
            have hns40_0 := NB328_329.out
            have hms40_0 := NB329_328.out
            have hs41 : w35.cell? ⟨gb329, 2, none⟩ = some (.string (⟨#[]⟩ : ByteArray)) := (blk_cell BK329.out 2).trans rfl
            have hfs41 := blk_frozen BK329.out 2
            have hns41_0 := NB328_329.out
            have hms41_0 := NB329_328.out
            refine skip_ (w1 := ?_) (by rfl) rfl ?_ ?_
            rotate_left
            ·go_simp
             rfl
            refine hK.out _ _ ⟨((cell_far (p := ⟨gb329, _, none⟩) (by first | exact Nat.ne_of_lt (Nat.lt_of_lt_of_le (by have := World.block_lt_of_cell? _ _ hw326_0; first | rwa [add_block] at this | exact this) GW329.out) | (rw [add_block]; exact Nat.ne_of_lt (Nat.lt_of_lt_of_le (by have := World.block_lt_of_cell? _ _ hw326_0; first | rwa [add_block] at this | exact this) GW329.out)) | (show (Addr.add _ _).block ≠ _; rw [add_block]; exact Nat.ne_of_lt (Nat.lt_of_lt_of_le (by have := World.block_lt_of_cell? _ _ hw326_0; first | rwa [add_block] at this | exact this) GW329.out)) | (dsimp only; exact Nat.ne_of_lt (Nat.lt_of_lt_of_le (by have := World.block_lt_of_cell? _ _ hw326_0; first | rwa [add_block] at this | exact this) GW329.out))) _).trans (((cell_far (p := ⟨gb329, _, none⟩) (by first | exact Nat.ne_of_lt (Nat.lt_of_lt_of_le (by have := World.block_lt_of_cell? _ _ hw326_0; first | rwa [add_block] at this | exact this) GW329.out) | (rw [add_block]; exact Nat.ne_of_lt (Nat.lt_of_lt_of_le (by have := World.block_lt_of_cell? _ _ hw326_0; first | rwa [add_block] at this | exact this) GW329.out)) | (show (Addr.add _ _).block ≠ _; rw [add_block]; exact Nat.ne_of_lt (Nat.lt_of_lt_of_le (by have := World.block_lt_of_cell? _ _ hw326_0; first | rwa [add_block] at this | exact this) GW329.out)) | (dsimp only; exact Nat.ne_of_lt (Nat.lt_of_lt_of_le (by have := World.block_lt_of_cell? _ _ hw326_0; first | rwa [add_block] at this | exact this) GW329.out))) _).trans (((cell_far (p := ⟨gb329, _, none⟩) (by first | exact Nat.ne_of_lt (Nat.lt_of_lt_of_le (by have := World.block_lt_of_cell? _ _ hw326_0; first | rwa [add_block] at this | exact this) GW329.out) | (rw [add_block]; exact Nat.ne_of_lt (Nat.lt_of_lt_of_le (by have := World.block_lt_of_cell? _ _ hw326_0; first | rwa [add_block] at this | exact this) GW329.out)) | (show (Addr.add _ _).block ≠ _; rw [add_block]; exact Nat.ne_of_lt (Nat.lt_of_lt_of_le (by have := World.block_lt_of_cell? _ _ hw326_0; first | rwa [add_block] at this | exact this) GW329.out)) | (dsimp only; exact Nat.ne_of_lt (Nat.lt_of_lt_of_le (by have := World.block_lt_of_cell? _ _ hw326_0; first | rwa [add_block] at this | exact this) GW329.out))) _).trans (hHeld.1)))))), ((cell_far (p := ⟨gb329, _, none⟩) (by first | exact Nat.ne_of_lt (Nat.lt_of_lt_of_le (by have := World.block_lt_of_cell? _ _ hw326_1; first | rwa [add_block] at this | exact this) GW329.out) | (rw [add_block]; exact Nat.ne_of_lt (Nat.lt_of_lt_of_le (by have := World.block_lt_of_cell? _ _ hw326_1; first | rwa [add_block] at this | exact this) GW329.out)) | (show (Addr.add _ _).block ≠ _; rw [add_block]; exact Nat.ne_of_lt (Nat.lt_of_lt_of_le (by have := World.block_lt_of_cell? _ _ hw326_1; first | rwa [add_block] at this | exact this) GW329.out)) | (dsimp only; exact Nat.ne_of_lt (Nat.lt_of_lt_of_le (by have := World.block_lt_of_cell? _ _ hw326_1; first | rwa [add_block] at this | exact this) GW329.out))) _).trans (((cell_far (p := ⟨gb329, _, none⟩) (by first | exact Nat.ne_of_lt (Nat.lt_of_lt_of_le (by have := World.block_lt_of_cell? _ _ hw326_1; first | rwa [add_block] at this | exact this) GW329.out) | (rw [add_block]; exact Nat.ne_of_lt (Nat.lt_of_lt_of_le (by have := World.block_lt_of_cell? _ _ hw326_1; first | rwa [add_block] at this | exact this) GW329.out)) | (show (Addr.add _ _).block ≠ _; rw [add_block]; exact Nat.ne_of_lt (Nat.lt_of_lt_of_le (by have := World.block_lt_of_cell? _ _ hw326_1; first | rwa [add_block] at this | exact this) GW329.out)) | (dsimp only; exact Nat.ne_of_lt (Nat.lt_of_lt_of_le (by have := World.block_lt_of_cell? _ _ hw326_1; first | rwa [add_block] at this | exact this) GW329.out))) _).trans (((cell_far (p := ⟨gb329, _, none⟩) (by first | exact Nat.ne_of_lt (Nat.lt_of_lt_of_le (by have := World.block_lt_of_cell? _ _ hw326_1; first | rwa [add_block] at this | exact this) GW329.out) | (rw [add_block]; exact Nat.ne_of_lt (Nat.lt_of_lt_of_le (by have := World.block_lt_of_cell? _ _ hw326_1; first | rwa [add_block] at this | exact this) GW329.out)) | (show (Addr.add _ _).block ≠ _; rw [add_block]; exact Nat.ne_of_lt (Nat.lt_of_lt_of_le (by have := World.block_lt_of_cell? _ _ hw326_1; first | rwa [add_block] at this | exact this) GW329.out)) | (dsimp only; exact Nat.ne_of_lt (Nat.lt_of_lt_of_le (by have := World.block_lt_of_cell? _ _ hw326_1; first | rwa [add_block] at this | exact this) GW329.out))) _).trans (hHeld.2.1)))))), ((cell_far (p := ⟨gb329, _, none⟩) (by first | exact Nat.ne_of_lt (Nat.lt_of_lt_of_le (by have := World.block_lt_of_cell? _ _ hw326_2; first | rwa [add_block] at this | exact this) GW329.out) | (rw [add_block]; exact Nat.ne_of_lt (Nat.lt_of_lt_of_le (by have := World.block_lt_of_cell? _ _ hw326_2; first | rwa [add_block] at this | exact this) GW329.out)) | (show (Addr.add _ _).block ≠ _; rw [add_block]; exact Nat.ne_of_lt (Nat.lt_of_lt_of_le (by have := World.block_lt_of_cell? _ _ hw326_2; first | rwa [add_block] at this | exact this) GW329.out)) | (dsimp only; exact Nat.ne_of_lt (Nat.lt_of_lt_of_le (by have := World.block_lt_of_cell? _ _ hw326_2; first | rwa [add_block] at this | exact this) GW329.out))) _).trans (((cell_far (p := ⟨gb329, _, none⟩) (by first | exact Nat.ne_of_lt (Nat.lt_of_lt_of_le (by have := World.block_lt_of_cell? _ _ hw326_2; first | rwa [add_block] at this | exact this) GW329.out) | (rw [add_block]; exact Nat.ne_of_lt (Nat.lt_of_lt_of_le (by have := World.block_lt_of_cell? _ _ hw326_2; first | rwa [add_block] at this | exact this) GW329.out)) | (show (Addr.add _ _).block ≠ _; rw [add_block]; exact Nat.ne_of_lt (Nat.lt_of_lt_of_le (by have := World.block_lt_of_cell? _ _ hw326_2; first | rwa [add_block] at this | exact this) GW329.out)) | (dsimp only; exact Nat.ne_of_lt (Nat.lt_of_lt_of_le (by have := World.block_lt_of_cell? _ _ hw326_2; first | rwa [add_block] at this | exact this) GW329.out))) _).trans (((cell_far (p := ⟨gb329, _, none⟩) (by first | exact Nat.ne_of_lt (Nat.lt_of_lt_of_le (by have := World.block_lt_of_cell? _ _ hw326_2; first | rwa [add_block] at this | exact this) GW329.out) | (rw [add_block]; exact Nat.ne_of_lt (Nat.lt_of_lt_of_le (by have := World.block_lt_of_cell? _ _ hw326_2; first | rwa [add_block] at this | exact this) GW329.out)) | (show (Addr.add _ _).block ≠ _; rw [add_block]; exact Nat.ne_of_lt (Nat.lt_of_lt_of_le (by have := World.block_lt_of_cell? _ _ hw326_2; first | rwa [add_block] at this | exact this) GW329.out)) | (dsimp only; exact Nat.ne_of_lt (Nat.lt_of_lt_of_le (by have := World.block_lt_of_cell? _ _ hw326_2; first | rwa [add_block] at this | exact this) GW329.out))) _).trans (hHeld.2.2.1)))))), ((cell_far (p := ⟨gb329, _, none⟩) (by first | exact Nat.ne_of_lt (Nat.lt_of_lt_of_le (by have := World.block_lt_of_cell? _ _ hw327_0; first | rwa [add_block] at this | exact this) GW329.out) | (rw [add_block]; exact Nat.ne_of_lt (Nat.lt_of_lt_of_le (by have := World.block_lt_of_cell? _ _ hw327_0; first | rwa [add_block] at this | exact this) GW329.out)) | (show (Addr.add _ _).block ≠ _; rw [add_block]; exact Nat.ne_of_lt (Nat.lt_of_lt_of_le (by have := World.block_lt_of_cell? _ _ hw327_0; first | rwa [add_block] at this | exact this) GW329.out)) | (dsimp only; exact Nat.ne_of_lt (Nat.lt_of_lt_of_le (by have := World.block_lt_of_cell? _ _ hw327_0; first | rwa [add_block] at this | exact this) GW329.out))) _).trans (((cell_far (p := ⟨gb329, _, none⟩) (by first | exact Nat.ne_of_lt (Nat.lt_of_lt_of_le (by have := World.block_lt_of_cell? _ _ hw327_0; first | rwa [add_block] at this | exact this) GW329.out) | (rw [add_block]; exact Nat.ne_of_lt (Nat.lt_of_lt_of_le (by have := World.block_lt_of_cell? _ _ hw327_0; first | rwa [add_block] at this | exact this) GW329.out)) | (show (Addr.add _ _).block ≠ _; rw [add_block]; exact Nat.ne_of_lt (Nat.lt_of_lt_of_le (by have := World.block_lt_of_cell? _ _ hw327_0; first | rwa [add_block] at this | exact this) GW329.out)) | (dsimp only; exact Nat.ne_of_lt (Nat.lt_of_lt_of_le (by have := World.block_lt_of_cell? _ _ hw327_0; first | rwa [add_block] at this | exact this) GW329.out))) _).trans (((cell_far (p := ⟨gb329, _, none⟩) (by first | exact Nat.ne_of_lt (Nat.lt_of_lt_of_le (by have := World.block_lt_of_cell? _ _ hw327_0; first | rwa [add_block] at this | exact this) GW329.out) | (rw [add_block]; exact Nat.ne_of_lt (Nat.lt_of_lt_of_le (by have := World.block_lt_of_cell? _ _ hw327_0; first | rwa [add_block] at this | exact this) GW329.out)) | (show (Addr.add _ _).block ≠ _; rw [add_block]; exact Nat.ne_of_lt (Nat.lt_of_lt_of_le (by have := World.block_lt_of_cell? _ _ hw327_0; first | rwa [add_block] at this | exact this) GW329.out)) | (dsimp only; exact Nat.ne_of_lt (Nat.lt_of_lt_of_le (by have := World.block_lt_of_cell? _ _ hw327_0; first | rwa [add_block] at this | exact this) GW329.out))) _).trans (hHeld.2.2.2.1)))))), ((cell_far (p := ⟨gb329, _, none⟩) (by first | exact Nat.ne_of_lt (Nat.lt_of_lt_of_le (by have := World.block_lt_of_cell? _ _ hw327_1; first | rwa [add_block] at this | exact this) GW329.out) | (rw [add_block]; exact Nat.ne_of_lt (Nat.lt_of_lt_of_le (by have := World.block_lt_of_cell? _ _ hw327_1; first | rwa [add_block] at this | exact this) GW329.out)) | (show (Addr.add _ _).block ≠ _; rw [add_block]; exact Nat.ne_of_lt (Nat.lt_of_lt_of_le (by have := World.block_lt_of_cell? _ _ hw327_1; first | rwa [add_block] at this | exact this) GW329.out)) | (dsimp only; exact Nat.ne_of_lt (Nat.lt_of_lt_of_le (by have := World.block_lt_of_cell? _ _ hw327_1; first | rwa [add_block] at this | exact this) GW329.out))) _).trans (((cell_far (p := ⟨gb329, _, none⟩) (by first | exact Nat.ne_of_lt (Nat.lt_of_lt_of_le (by have := World.block_lt_of_cell? _ _ hw327_1; first | rwa [add_block] at this | exact this) GW329.out) | (rw [add_block]; exact Nat.ne_of_lt (Nat.lt_of_lt_of_le (by have := World.block_lt_of_cell? _ _ hw327_1; first | rwa [add_block] at this | exact this) GW329.out)) | (show (Addr.add _ _).block ≠ _; rw [add_block]; exact Nat.ne_of_lt (Nat.lt_of_lt_of_le (by have := World.block_lt_of_cell? _ _ hw327_1; first | rwa [add_block] at this | exact this) GW329.out)) | (dsimp only; exact Nat.ne_of_lt (Nat.lt_of_lt_of_le (by have := World.block_lt_of_cell? _ _ hw327_1; first | rwa [add_block] at this | exact this) GW329.out))) _).trans (((cell_far (p := ⟨gb329, _, none⟩) (by first | exact Nat.ne_of_lt (Nat.lt_of_lt_of_le (by have := World.block_lt_of_cell? _ _ hw327_1; first | rwa [add_block] at this | exact this) GW329.out) | (rw [add_block]; exact Nat.ne_of_lt (Nat.lt_of_lt_of_le (by have := World.block_lt_of_cell? _ _ hw327_1; first | rwa [add_block] at this | exact this) GW329.out)) | (show (Addr.add _ _).block ≠ _; rw [add_block]; exact Nat.ne_of_lt (Nat.lt_of_lt_of_le (by have := World.block_lt_of_cell? _ _ hw327_1; first | rwa [add_block] at this | exact this) GW329.out)) | (dsimp only; exact Nat.ne_of_lt (Nat.lt_of_lt_of_le (by have := World.block_lt_of_cell? _ _ hw327_1; first | rwa [add_block] at this | exact this) GW329.out))) _).trans (hHeld.2.2.2.2.1)))))), ((cell_far (p := ⟨gb329, _, none⟩) (by first | exact Nat.ne_of_lt (Nat.lt_of_lt_of_le (by have := World.block_lt_of_cell? _ _ hw327_2; first | rwa [add_block] at this | exact this) GW329.out) | (rw [add_block]; exact Nat.ne_of_lt (Nat.lt_of_lt_of_le (by have := World.block_lt_of_cell? _ _ hw327_2; first | rwa [add_block] at this | exact this) GW329.out)) | (show (Addr.add _ _).block ≠ _; rw [add_block]; exact Nat.ne_of_lt (Nat.lt_of_lt_of_le (by have := World.block_lt_of_cell? _ _ hw327_2; first | rwa [add_block] at this | exact this) GW329.out)) | (dsimp only; exact Nat.ne_of_lt (Nat.lt_of_lt_of_le (by have := World.block_lt_of_cell? _ _ hw327_2; first | rwa [add_block] at this | exact this) GW329.out))) _).trans (((cell_far (p := ⟨gb329, _, none⟩) (by first | exact Nat.ne_of_lt (Nat.lt_of_lt_of_le (by have := World.block_lt_of_cell? _ _ hw327_2; first | rwa [add_block] at this | exact this) GW329.out) | (rw [add_block]; exact Nat.ne_of_lt (Nat.lt_of_lt_of_le (by have := World.block_lt_of_cell? _ _ hw327_2; first | rwa [add_block] at this | exact this) GW329.out)) | (show (Addr.add _ _).block ≠ _; rw [add_block]; exact Nat.ne_of_lt (Nat.lt_of_lt_of_le (by have := World.block_lt_of_cell? _ _ hw327_2; first | rwa [add_block] at this | exact this) GW329.out)) | (dsimp only; exact Nat.ne_of_lt (Nat.lt_of_lt_of_le (by have := World.block_lt_of_cell? _ _ hw327_2; first | rwa [add_block] at this | exact this) GW329.out))) _).trans (((cell_far (p := ⟨gb329, _, none⟩) (by first | exact Nat.ne_of_lt (Nat.lt_of_lt_of_le (by have := World.block_lt_of_cell? _ _ hw327_2; first | rwa [add_block] at this | exact this) GW329.out) | (rw [add_block]; exact Nat.ne_of_lt (Nat.lt_of_lt_of_le (by have := World.block_lt_of_cell? _ _ hw327_2; first | rwa [add_block] at this | exact this) GW329.out)) | (show (Addr.add _ _).block ≠ _; rw [add_block]; exact Nat.ne_of_lt (Nat.lt_of_lt_of_le (by have := World.block_lt_of_cell? _ _ hw327_2; first | rwa [add_block] at this | exact this) GW329.out)) | (dsimp only; exact Nat.ne_of_lt (Nat.lt_of_lt_of_le (by have := World.block_lt_of_cell? _ _ hw327_2; first | rwa [add_block] at this | exact this) GW329.out))) _).trans (hHeld.2.2.2.2.2))))))⟩ (fun hHeld => ?_)
            clear hK K
            refine done_ (done_of HT_.out (by kernel_rfl)) ?_
            have hnb42 := NB328_329.out
            have hnc42 := NB329_328.out
            have hcz43_0 : w35.cell? ⟨gb328, 0, none⟩ = some (.int .i64 0) := (blk_cell BK328.out 0).trans rfl
            have hcz43_1 : w35.cell? ⟨gb328, 1, none⟩ = some (.int .i64 0) := (blk_cell BK328.out 1).trans rfl
            have hcz43_2 : w35.cell? ⟨gb328, 2, none⟩ = some (.string (⟨#[]⟩ : ByteArray)) := (blk_cell BK328.out 2).trans rfl
            have hfz43_0 := blk_frozen BK328.out 0
            have hfz43_1 := blk_frozen BK328.out 1
            have hfz43_2 := blk_frozen BK328.out 2
            have hcz44_0 : w35.cell? ⟨gb329, 0, none⟩ = some (.int .i64 0) := (blk_cell BK329.out 0).trans rfl
            have hcz44_1 : w35.cell? ⟨gb329, 1, none⟩ = some (.int .i64 0) := (blk_cell BK329.out 1).trans rfl
            have hcz44_2 : w35.cell? ⟨gb329, 2, none⟩ = some (.string (⟨#[]⟩ : ByteArray)) := (blk_cell BK329.out 2).trans rfl
            have hfz44_0 := blk_frozen BK329.out 0
            have hfz44_1 := blk_frozen BK329.out 1
            have hfz44_2 := blk_frozen BK329.out 2
            try go_wp2
            go_ret
            exact ⟨by first | rfl | (simp [errW_none, errW_some] <;> rfl) | (simp only [← hji27]; first | rfl | (simp [errW_none, errW_some] <;> rfl)) | (simp [*, errW_none, errW_some] <;> rfl), pxb HB⟩
           ·rw [if_neg c31] at H
            have c31b0 : decide (((rd_T60 l1 x7_2).f0.f0) < ((rd_T60 l1 (ji27)).f0.f1)) = false := decide_eq_false c31
            clear c31
            have H' := Aside0.mk H
            clear H
            try go_wp2
            have n0_ := Aside0.mk (below_drew1 HB.out)
            clear HB
            have HB := n0_
            clear n0_
            have p326 : 0 ≤ ((ji27) : Int) := of_decide_eq_true (by first | (with_reducible assumption) | assumption)
            have q326 : (ji27) < (l1.length : Int) := of_decide_eq_true (by first | (with_reducible assumption) | assumption)
            obtain ⟨ad326, e326, hx326_0, hx326_1, hx326_2⟩ := at_T60 HR1.out (ji27) p326 q326
            have hw326_2 := hx326_2
            have hw326_1 := hx326_1
            have hw326_0 := hx326_0
            cases e326
            replace hx326_0 := (HB.out.cell (World.block_lt_of_cell? w _ hx326_0)).trans hx326_0
            replace hx326_1 := (HB.out.cell (World.block_lt_of_cell? w _ hx326_1)).trans hx326_1
            replace hx326_2 := (HB.out.cell (World.block_lt_of_cell? w _ hx326_2)).trans hx326_2
            replace p326 := eq_true p326
            replace q326 := eq_true q326
            have p327 : 0 ≤ (x7_2 : Int) := of_decide_eq_true (by first | (with_reducible assumption) | assumption)
            have q327 : x7_2 < (l1.length : Int) := of_decide_eq_true (by first | (with_reducible assumption) | assumption)
            obtain ⟨ad327, e327, hx327_0, hx327_1, hx327_2⟩ := at_T60 HR1.out x7_2 p327 q327
            have hw327_2 := hx327_2
            have hw327_1 := hx327_1
            have hw327_0 := hx327_0
            obtain rfl : ad326 = ad327 := (by injection e327)
            replace hx327_0 := (HB.out.cell (World.block_lt_of_cell? w _ hx327_0)).trans hx327_0
            replace hx327_1 := (HB.out.cell (World.block_lt_of_cell? w _ hx327_1)).trans hx327_1
            replace hx327_2 := (HB.out.cell (World.block_lt_of_cell? w _ hx327_2)).trans hx327_2
            replace p327 := eq_true p327
            replace q327 := eq_true q327
            refine start_ (n := 13) (S := fun w' => w'.cell? (ad326.add (((ji27)).toNat * 3)) = some (.int .i64 ((rd_T60 l1 (ji27)).f0.f0)) ∧ w'.cell? ⟨(ad326.add (((ji27)).toNat * 3)).block, (ad326.add (((ji27)).toNat * 3)).off + 1, none⟩ = some (.int .i64 ((rd_T60 l1 (ji27)).f0.f1)) ∧ w'.cell? ⟨(ad326.add (((ji27)).toNat * 3)).block, (ad326.add (((ji27)).toNat * 3)).off + 2, none⟩ = some (.string ((rd_T60 l1 (ji27)).f1)) ∧ w'.cell? (ad326.add ((x7_2).toNat * 3)) = some (.int .i64 ((rd_T60 l1 x7_2).f0.f0)) ∧ w'.cell? ⟨(ad326.add ((x7_2).toNat * 3)).block, (ad326.add ((x7_2).toNat * 3)).off + 1, none⟩ = some (.int .i64 ((rd_T60 l1 x7_2).f0.f1)) ∧ w'.cell? ⟨(ad326.add ((x7_2).toNat * 3)).block, (ad326.add ((x7_2).toNat * 3)).off + 2, none⟩ = some (.string ((rd_T60 l1 x7_2).f1))) (ds := []) #[false, false, false, false, false, false, false, false, false, false, false, false, false] (by kernel_rfl) rfl rfl ⟨((HB.out.cell (World.block_lt_of_cell? w _ hw326_0)).trans hw326_0), ((HB.out.cell (World.block_lt_of_cell? w _ hw326_1)).trans hw326_1), ((HB.out.cell (World.block_lt_of_cell? w _ hw326_2)).trans hw326_2), ((HB.out.cell (World.block_lt_of_cell? w _ hw327_0)).trans hw327_0), ((HB.out.cell (World.block_lt_of_cell? w _ hw327_1)).trans hw327_1), ((HB.out.cell (World.block_lt_of_cell? w _ hw327_2)).trans hw327_2)⟩ (fun hHeld => ?_); refine with_tabW caulkerref03_Check.tab14 caulkerref03_Check.bits14 (fun HT_ HW_ => ?_)
            generalize wr.drew = w45 at HB hx326_0 hx326_1 hx326_2 hx327_0 hx327_1 hx327_2 hHeld ⊢
            refine pure_ (i := 0) (N := some 61) (v := ?_) (a' := ?_) #[true, false, false, false, false, false, false, false, false, false, false, false, false] rfl rfl (any_of HT_.out (by kernel_rfl)) (fun _ _ _ h => h) (Or.inl ⟨by rfl, ?_⟩) ?_ ?_
            rotate_left
            ·intro w'
             go_simp
             with_reducible rfl
            rotate_left
            ·simp only [Act.put, List.setIfInBounds_toArray, List.set_cons_zero, List.set_cons_succ, i64_w, i32_w]
             rfl
            refine pure_ (i := 1) (N := some 62) (v := ?_) (a' := ?_) #[true, true, false, false, false, false, false, false, false, false, false, false, false] rfl rfl (any_of HT_.out (by kernel_rfl)) (fun _ _ _ h => h) (Or.inl ⟨by rfl, ?_⟩) ?_ ?_
            rotate_left
            ·intro w'
             go_simp
             with_reducible rfl
            rotate_left
            ·simp only [Act.put, List.setIfInBounds_toArray, List.set_cons_zero, List.set_cons_succ, i64_w, i32_w]
             rfl
            refine pure_ (i := 2) (N := some 63) (v := ?_) (a' := ?_) #[true, true, true, false, false, false, false, false, false, false, false, false, false] rfl rfl (any_of HT_.out (by kernel_rfl)) (fun _ _ _ h => h) (Or.inl ⟨by rfl, ?_⟩) ?_ ?_
            rotate_left
            ·intro w'
             go_simp
             with_reducible rfl
            rotate_left
            ·simp only [Act.put, List.setIfInBounds_toArray, List.set_cons_zero, List.set_cons_succ, i64_w, i32_w]
             rfl
            refine pure_ (i := 3) (N := some 64) (v := ?_) (a' := ?_) #[true, true, true, true, false, false, false, false, false, false, false, false, false] rfl rfl (any_of HT_.out (by kernel_rfl)) (fun _ _ _ h => h) (Or.inl ⟨by rfl, ?_⟩) ?_ ?_
            rotate_left
            ·intro w'
             go_simp
             with_reducible rfl
            rotate_left
            ·simp only [Act.put, List.setIfInBounds_toArray, List.set_cons_zero, List.set_cons_succ, i64_w, i32_w]
             rfl
            refine pure_ (i := 5) (N := some 66) (v := ?_) (a' := ?_) #[true, true, true, true, false, true, false, false, false, false, false, false, false] rfl rfl (any_of HT_.out (by kernel_rfl)) (fun _ _ _ h => h) (Or.inl ⟨by rfl, ?_⟩) ?_ ?_
            rotate_left
            ·intro w'
             go_simp
             with_reducible rfl
            rotate_left
            ·simp only [Act.put, List.setIfInBounds_toArray, List.set_cons_zero, List.set_cons_succ, i64_w, i32_w]
             rfl
            refine pure_ (i := 6) (N := some 67) (v := ?_) (a' := ?_) #[true, true, true, true, false, true, true, false, false, false, false, false, false] rfl rfl (any_of HT_.out (by kernel_rfl)) (fun _ _ _ h => h) (Or.inl ⟨by rfl, ?_⟩) ?_ ?_
            rotate_left
            ·intro w'
             go_simp
             with_reducible rfl
            rotate_left
            ·simp only [Act.put, List.setIfInBounds_toArray, List.set_cons_zero, List.set_cons_succ, i64_w, i32_w]
             rfl
            refine pure_ (i := 7) (N := some 68) (v := ?_) (a' := ?_) #[true, true, true, true, false, true, true, true, false, false, false, false, false] rfl rfl (any_of HT_.out (by kernel_rfl)) (fun _ _ _ h => h) (Or.inl ⟨by rfl, ?_⟩) ?_ ?_
            rotate_left
            ·intro w'
             go_simp
             with_reducible rfl
            rotate_left
            ·simp only [Act.put, List.setIfInBounds_toArray, List.set_cons_zero, List.set_cons_succ, i64_w, i32_w]
             rfl
            refine take_ (i := 4) (N := some 65) (v := ?_) (a' := ?_) #[true, true, true, true, true, true, true, true, false, false, false, false, false] rfl rfl (take_ofW HT_.out HW_.out (by kernel_rfl)) (fun _ _ _ h => h) (Or.inl ⟨by rfl, ?_⟩) hHeld ?_ ?_
            rotate_left
            ·rintro w' ⟨s0, s1, s2, s3, s4, s5⟩
             go_simp
             with_reducible rfl
            rotate_left
            ·simp only [Act.put, List.setIfInBounds_toArray, List.set_cons_zero, List.set_cons_succ, i64_w, i32_w]
             rfl
            refine take_ (i := 8) (N := some 69) (v := ?_) (a' := ?_) #[true, true, true, true, true, true, true, true, true, false, false, false, false] rfl rfl (take_ofW HT_.out HW_.out (by kernel_rfl)) (fun _ _ _ h => h) (Or.inl ⟨by rfl, ?_⟩) hHeld ?_ ?_
            rotate_left
            ·rintro w' ⟨s0, s1, s2, s3, s4, s5⟩
             go_simp
             with_reducible rfl
            rotate_left
            ·simp only [Act.put, List.setIfInBounds_toArray, List.set_cons_zero, List.set_cons_succ, i64_w, i32_w]
             rfl
            refine join_ (σ := Nat × Nat) 2 #[true, true, true, true, true, true, true, true, true, true, true, false, false] (fun s_ => [(8, .pointer (some ⟨s_.1, 0, none⟩)), (9, .pointer (some ⟨s_.2, 0, none⟩))]) (fun s_ w' => (w'.cell? (ad326.add (((ji27)).toNat * 3)) = some (.int .i64 ((rd_T60 l1 (ji27)).f0.f0)) ∧ w'.cell? ⟨(ad326.add (((ji27)).toNat * 3)).block, (ad326.add (((ji27)).toNat * 3)).off + 1, none⟩ = some (.int .i64 ((rd_T60 l1 (ji27)).f0.f1)) ∧ w'.cell? ⟨(ad326.add (((ji27)).toNat * 3)).block, (ad326.add (((ji27)).toNat * 3)).off + 2, none⟩ = some (.string ((rd_T60 l1 (ji27)).f1)) ∧ w'.cell? (ad326.add ((x7_2).toNat * 3)) = some (.int .i64 ((rd_T60 l1 x7_2).f0.f0)) ∧ w'.cell? ⟨(ad326.add ((x7_2).toNat * 3)).block, (ad326.add ((x7_2).toNat * 3)).off + 1, none⟩ = some (.int .i64 ((rd_T60 l1 x7_2).f0.f1)) ∧ w'.cell? ⟨(ad326.add ((x7_2).toNat * 3)).block, (ad326.add ((x7_2).toNat * 3)).off + 2, none⟩ = some (.string ((rd_T60 l1 x7_2).f1))) ∧ (w'.heap[s_.1]? = some (.cells #[.int .i64 0, .int .i64 0, .string (⟨#[]⟩ : ByteArray)] 60 (0, 0))) ∧ (w'.heap[s_.2]? = some (.cells #[.int .i64 0, .int .i64 0, .string (⟨#[]⟩ : ByteArray)] 60 (0, 0))) ∧ (w.heap.size ≤ s_.1) ∧ (w.heap.size ≤ s_.1) ∧ (s_.2 ≠ s_.1) ∧ (s_.1 ≠ s_.2) ∧ (w.heap.size ≤ s_.2) ∧ (w.heap.size ≤ s_.2) ∧ (Below w.heap.size w w')) ?_ ?_
            rotate_left
            ·intro hCont
             refine two_ (i := 9) (j := 10) (Ni := some 8) (Nj := some 9) #[true, true, true, true, true, true, true, true, true, true, false, false, false] #[true, true, true, true, true, true, true, true, true, false, true, false, false] rfl rfl rfl rfl (two_of HT_.out (by kernel_rfl)) (by decide) (by decide) (fun K hK => ?_) (fun K hK => ?_)
             ·skip
              refine box_step ?hg (N := 8) ?hd (cs := #[.int .i64 0, .int .i64 0, .string (⟨#[]⟩ : ByteArray)]) (t := 60) ?hr ?_; (case hd => rfl); (case hg => rfl); (case hr => first | (go_simp; done) | (go_simp; rfl))
              intro gb328 hg w46 hbox hb
              have n0_ := pxs HB hb
              have n1_ := Aside0.mk (hbox)
              have n2_ := Aside0.mk ((by rw [hg]; exact (below_size (pxb HB)) : w.heap.size ≤ gb328))
              have n3_ := Aside0.mk ((by rw [hg]; exact (below_size (pxb HB)) : w.heap.size ≤ gb328))
              clear HB
              have HB := n0_
              have BK328 := n1_
              have GW328 := n2_
              have GE328 := n3_
              clear n0_ n1_ n2_ n3_
              clear hb hbox hg
              refine hK.out _ _ ⟨((HB.out.cell (World.block_lt_of_cell? w _ hw326_0)).trans hw326_0), ((HB.out.cell (World.block_lt_of_cell? w _ hw326_1)).trans hw326_1), ((HB.out.cell (World.block_lt_of_cell? w _ hw326_2)).trans hw326_2), ((HB.out.cell (World.block_lt_of_cell? w _ hw327_0)).trans hw327_0), ((HB.out.cell (World.block_lt_of_cell? w _ hw327_1)).trans hw327_1), ((HB.out.cell (World.block_lt_of_cell? w _ hw327_2)).trans hw327_2)⟩ (fun hHeld => ?_)
              clear hK K
              refine norm_ (a' := ?_) ?_ ?_
              rotate_left
              ·show Act.put _ (some 8) _ = _
               simp only [Act.put, List.setIfInBounds_toArray, List.set_cons_zero, List.set_cons_succ, i64_w, i32_w]
               rfl
              refine one_ (i := 10) (N := some 9) #[true, true, true, true, true, true, true, true, true, true, true, false, false] rfl rfl (one_of HT_.out (by kernel_rfl)) (by decide) (fun K hK => ?_)
              refine box_step ?hg (N := 9) ?hd (cs := #[.int .i64 0, .int .i64 0, .string (⟨#[]⟩ : ByteArray)]) (t := 60) ?hr ?_; (case hd => rfl); (case hg => rfl); (case hr => first | (go_simp; done) | (go_simp; rfl))
              intro gb329 hg w47 hbox hb
              have n0_ := pxk BK328 hb
              have n1_ := pxs HB hb
              have n2_ := Aside0.mk (hbox)
              have n3_ := Aside0.mk ((by rw [hg]; exact (below_size (pxb HB)) : w.heap.size ≤ gb329))
              have n4_ := Aside0.mk ((by rw [hg]; exact (below_size (pxb HB)) : w.heap.size ≤ gb329))
              have n5_ := Aside0.mk ((by rw [hg]; exact Nat.ne_of_lt (blk_lt (g := gb328) (o := .cells #[.int .i64 0, .int .i64 0, .string (⟨#[]⟩ : ByteArray)] 60 (0, 0)) (pxq BK328)) : gb328 ≠ gb329))
              have n6_ := Aside0.mk ((by rw [hg]; exact Nat.ne_of_gt (blk_lt (g := gb328) (o := .cells #[.int .i64 0, .int .i64 0, .string (⟨#[]⟩ : ByteArray)] 60 (0, 0)) (pxq BK328)) : gb329 ≠ gb328))
              clear BK328
              clear HB
              have BK328 := n0_
              have HB := n1_
              have BK329 := n2_
              have GW329 := n3_
              have GE329 := n4_
              have NB328_329 := n5_
              have NB329_328 := n6_
              clear n0_ n1_ n2_ n3_ n4_ n5_ n6_
              clear hb hbox hg
              refine hK.out _ _ ⟨((HB.out.cell (World.block_lt_of_cell? w _ hw326_0)).trans hw326_0), ((HB.out.cell (World.block_lt_of_cell? w _ hw326_1)).trans hw326_1), ((HB.out.cell (World.block_lt_of_cell? w _ hw326_2)).trans hw326_2), ((HB.out.cell (World.block_lt_of_cell? w _ hw327_0)).trans hw327_0), ((HB.out.cell (World.block_lt_of_cell? w _ hw327_1)).trans hw327_1), ((HB.out.cell (World.block_lt_of_cell? w _ hw327_2)).trans hw327_2)⟩ (fun hHeld => ?_)
              clear hK K
              refine norm_ (a' := ?_) ?_ ?_
              rotate_left
              ·show Act.put _ (some 9) _ = _
               simp only [Act.put, List.setIfInBounds_toArray, List.set_cons_zero, List.set_cons_succ, i64_w, i32_w]
               rfl
              exact norm_ (by simp only [putAll, Act.put, List.setIfInBounds_toArray, List.set_cons_zero, List.set_cons_succ]) (hCont (gb328, gb329) _ ⟨hHeld, (pxq BK328), (pxq BK329), GW328.out, GE328.out, NB329_328.out, NB328_329.out, GW329.out, GE329.out, (pxb HB)⟩)
             ·skip
              refine box_step ?hg (N := 9) ?hd (cs := #[.int .i64 0, .int .i64 0, .string (⟨#[]⟩ : ByteArray)]) (t := 60) ?hr ?_; (case hd => rfl); (case hg => rfl); (case hr => first | (go_simp; done) | (go_simp; rfl))
              intro gb329 hg w46 hbox hb
              have n0_ := pxs HB hb
              have n1_ := Aside0.mk (hbox)
              have n2_ := Aside0.mk ((by rw [hg]; exact (below_size (pxb HB)) : w.heap.size ≤ gb329))
              have n3_ := Aside0.mk ((by rw [hg]; exact (below_size (pxb HB)) : w.heap.size ≤ gb329))
              clear HB
              have HB := n0_
              have BK329 := n1_
              have GW329 := n2_
              have GE329 := n3_
              clear n0_ n1_ n2_ n3_
              clear hb hbox hg
              refine hK.out _ _ ⟨((HB.out.cell (World.block_lt_of_cell? w _ hw326_0)).trans hw326_0), ((HB.out.cell (World.block_lt_of_cell? w _ hw326_1)).trans hw326_1), ((HB.out.cell (World.block_lt_of_cell? w _ hw326_2)).trans hw326_2), ((HB.out.cell (World.block_lt_of_cell? w _ hw327_0)).trans hw327_0), ((HB.out.cell (World.block_lt_of_cell? w _ hw327_1)).trans hw327_1), ((HB.out.cell (World.block_lt_of_cell? w _ hw327_2)).trans hw327_2)⟩ (fun hHeld => ?_)
              clear hK K
              refine norm_ (a' := ?_) ?_ ?_
              rotate_left
              ·show Act.put _ (some 9) _ = _
               simp only [Act.put, List.setIfInBounds_toArray, List.set_cons_zero, List.set_cons_succ, i64_w, i32_w]
               rfl
              refine one_ (i := 9) (N := some 8) #[true, true, true, true, true, true, true, true, true, true, true, false, false] rfl rfl (one_of HT_.out (by kernel_rfl)) (by decide) (fun K hK => ?_)
              refine box_step ?hg (N := 8) ?hd (cs := #[.int .i64 0, .int .i64 0, .string (⟨#[]⟩ : ByteArray)]) (t := 60) ?hr ?_; (case hd => rfl); (case hg => rfl); (case hr => first | (go_simp; done) | (go_simp; rfl))
              intro gb328 hg w47 hbox hb
              have n0_ := pxk BK329 hb
              have n1_ := pxs HB hb
              have n2_ := Aside0.mk (hbox)
              have n3_ := Aside0.mk ((by rw [hg]; exact (below_size (pxb HB)) : w.heap.size ≤ gb328))
              have n4_ := Aside0.mk ((by rw [hg]; exact (below_size (pxb HB)) : w.heap.size ≤ gb328))
              have n5_ := Aside0.mk ((by rw [hg]; exact Nat.ne_of_lt (blk_lt (g := gb329) (o := .cells #[.int .i64 0, .int .i64 0, .string (⟨#[]⟩ : ByteArray)] 60 (0, 0)) (pxq BK329)) : gb329 ≠ gb328))
              have n6_ := Aside0.mk ((by rw [hg]; exact Nat.ne_of_gt (blk_lt (g := gb329) (o := .cells #[.int .i64 0, .int .i64 0, .string (⟨#[]⟩ : ByteArray)] 60 (0, 0)) (pxq BK329)) : gb328 ≠ gb329))
              clear BK329
              clear HB
              have BK329 := n0_
              have HB := n1_
              have BK328 := n2_
              have GW328 := n3_
              have GE328 := n4_
              have NB329_328 := n5_
              have NB328_329 := n6_
              clear n0_ n1_ n2_ n3_ n4_ n5_ n6_
              clear hb hbox hg
              refine hK.out _ _ ⟨((HB.out.cell (World.block_lt_of_cell? w _ hw326_0)).trans hw326_0), ((HB.out.cell (World.block_lt_of_cell? w _ hw326_1)).trans hw326_1), ((HB.out.cell (World.block_lt_of_cell? w _ hw326_2)).trans hw326_2), ((HB.out.cell (World.block_lt_of_cell? w _ hw327_0)).trans hw327_0), ((HB.out.cell (World.block_lt_of_cell? w _ hw327_1)).trans hw327_1), ((HB.out.cell (World.block_lt_of_cell? w _ hw327_2)).trans hw327_2)⟩ (fun hHeld => ?_)
              clear hK K
              refine norm_ (a' := ?_) ?_ ?_
              rotate_left
              ·show Act.put _ (some 8) _ = _
               simp only [Act.put, List.setIfInBounds_toArray, List.set_cons_zero, List.set_cons_succ, i64_w, i32_w]
               rfl
              exact norm_ (by simp only [putAll, Act.put, List.setIfInBounds_toArray, List.set_cons_zero, List.set_cons_succ]) (hCont (gb328, gb329) _ ⟨hHeld, (pxq BK328), (pxq BK329), GW328.out, GE328.out, NB329_328.out, NB328_329.out, GW329.out, GE329.out, (pxb HB)⟩)
            rintro ⟨gb328, gb329⟩ w48 ⟨hS_, h0_, h1_, h2_, h3_, h4_, h5_, h6_, h7_, h8_⟩
            have n0_ : Aside0 (w48.heap[gb328]? = some (.cells #[.int .i64 0, .int .i64 0, .string (⟨#[]⟩ : ByteArray)] 60 (0, 0))) := ⟨h0_⟩
            have n1_ : Aside0 (w48.heap[gb329]? = some (.cells #[.int .i64 0, .int .i64 0, .string (⟨#[]⟩ : ByteArray)] 60 (0, 0))) := ⟨h1_⟩
            have n2_ : Aside0 (w.heap.size ≤ gb328) := ⟨h2_⟩
            have n3_ : Aside0 (w.heap.size ≤ gb328) := ⟨h3_⟩
            have n4_ : Aside0 (gb329 ≠ gb328) := ⟨h4_⟩
            have n5_ : Aside0 (gb328 ≠ gb329) := ⟨h5_⟩
            have n6_ : Aside0 (w.heap.size ≤ gb329) := ⟨h6_⟩
            have n7_ : Aside0 (w.heap.size ≤ gb329) := ⟨h7_⟩
            have n8_ : Aside0 (Below w.heap.size w w48) := ⟨h8_⟩
            clear HB
            clear h0_ h1_ h2_ h3_ h4_ h5_ h6_ h7_ h8_
            have BK328 := n0_
            have BK329 := n1_
            have GW328 := n2_
            have GE328 := n3_
            have NB329_328 := n4_
            have NB328_329 := n5_
            have GW329 := n6_
            have GE329 := n7_
            have HB := n8_
            clear n0_ n1_ n2_ n3_ n4_ n5_ n6_ n7_ n8_
            have hHeld : w48.cell? (ad326.add (((ji27)).toNat * 3)) = some (.int .i64 ((rd_T60 l1 (ji27)).f0.f0)) ∧ w48.cell? ⟨(ad326.add (((ji27)).toNat * 3)).block, (ad326.add (((ji27)).toNat * 3)).off + 1, none⟩ = some (.int .i64 ((rd_T60 l1 (ji27)).f0.f1)) ∧ w48.cell? ⟨(ad326.add (((ji27)).toNat * 3)).block, (ad326.add (((ji27)).toNat * 3)).off + 2, none⟩ = some (.string ((rd_T60 l1 (ji27)).f1)) ∧ w48.cell? (ad326.add ((x7_2).toNat * 3)) = some (.int .i64 ((rd_T60 l1 x7_2).f0.f0)) ∧ w48.cell? ⟨(ad326.add ((x7_2).toNat * 3)).block, (ad326.add ((x7_2).toNat * 3)).off + 1, none⟩ = some (.int .i64 ((rd_T60 l1 x7_2).f0.f1)) ∧ w48.cell? ⟨(ad326.add ((x7_2).toNat * 3)).block, (ad326.add ((x7_2).toNat * 3)).off + 2, none⟩ = some (.string ((rd_T60 l1 x7_2).f1)) := hS_
            refine norm_ (a' := ?_) ?_ ?_
            rotate_left
            ·simp only [putAll, Act.put, List.setIfInBounds_toArray, List.set_cons_zero, List.set_cons_succ]
             rfl
            refine one_ (i := 11) (N := none) #[true, true, true, true, true, true, true, true, true, true, true, true, false] rfl rfl (one_of HT_.out (by kernel_rfl)) (by decide) (fun K hK => ?_)
            have hs49 : w48.cell? ⟨gb328, 0, none⟩ = some (.int .i64 0) := (blk_cell BK328.out 0).trans rfl
            have hfs49 := blk_frozen BK328.out 0
            have hns49_1 := NB329_328.out
            have hms49_1 := NB328_329.out
            have hs50 : w48.cell? ⟨gb328, 1, none⟩ = some (.int .i64 0) := (blk_cell BK328.out 1).trans rfl
            have hfs50 := blk_frozen BK328.out 1
            have hns50_1 := NB329_328.out
            have hms50_1 := NB328_329.out
            have hs51 : w48.cell? ⟨gb328, 2, none⟩ = some (.string (⟨#[]⟩ : ByteArray)) := (blk_cell BK328.out 2).trans rfl
            have hfs51 := blk_frozen BK328.out 2
            have hns51_1 := NB329_328.out
            have hms51_1 := NB328_329.out
            refine skip_ (w1 := ?_) (by rfl) rfl ?_ ?_
            rotate_left
            ·go_simp
             rfl
            refine hK.out _ _ ⟨((cell_far (p := ⟨gb328, _, none⟩) (by first | exact Nat.ne_of_lt (Nat.lt_of_lt_of_le (by have := World.block_lt_of_cell? _ _ hw326_0; first | rwa [add_block] at this | exact this) GW328.out) | (rw [add_block]; exact Nat.ne_of_lt (Nat.lt_of_lt_of_le (by have := World.block_lt_of_cell? _ _ hw326_0; first | rwa [add_block] at this | exact this) GW328.out)) | (show (Addr.add _ _).block ≠ _; rw [add_block]; exact Nat.ne_of_lt (Nat.lt_of_lt_of_le (by have := World.block_lt_of_cell? _ _ hw326_0; first | rwa [add_block] at this | exact this) GW328.out)) | (dsimp only; exact Nat.ne_of_lt (Nat.lt_of_lt_of_le (by have := World.block_lt_of_cell? _ _ hw326_0; first | rwa [add_block] at this | exact this) GW328.out))) _).trans (((cell_far (p := ⟨gb328, _, none⟩) (by first | exact Nat.ne_of_lt (Nat.lt_of_lt_of_le (by have := World.block_lt_of_cell? _ _ hw326_0; first | rwa [add_block] at this | exact this) GW328.out) | (rw [add_block]; exact Nat.ne_of_lt (Nat.lt_of_lt_of_le (by have := World.block_lt_of_cell? _ _ hw326_0; first | rwa [add_block] at this | exact this) GW328.out)) | (show (Addr.add _ _).block ≠ _; rw [add_block]; exact Nat.ne_of_lt (Nat.lt_of_lt_of_le (by have := World.block_lt_of_cell? _ _ hw326_0; first | rwa [add_block] at this | exact this) GW328.out)) | (dsimp only; exact Nat.ne_of_lt (Nat.lt_of_lt_of_le (by have := World.block_lt_of_cell? _ _ hw326_0; first | rwa [add_block] at this | exact this) GW328.out))) _).trans (((cell_far (p := ⟨gb328, _, none⟩) (by first | exact Nat.ne_of_lt (Nat.lt_of_lt_of_le (by have := World.block_lt_of_cell? _ _ hw326_0; first | rwa [add_block] at this | exact this) GW328.out) | (rw [add_block]; exact Nat.ne_of_lt (Nat.lt_of_lt_of_le (by have := World.block_lt_of_cell? _ _ hw326_0; first | rwa [add_block] at this | exact this) GW328.out)) | (show (Addr.add _ _).block ≠ _; rw [add_block]; exact Nat.ne_of_lt (Nat.lt_of_lt_of_le (by have := World.block_lt_of_cell? _ _ hw326_0; first | rwa [add_block] at this | exact this) GW328.out)) | (dsimp only; exact Nat.ne_of_lt (Nat.lt_of_lt_of_le (by have := World.block_lt_of_cell? _ _ hw326_0; first | rwa [add_block] at this | exact this) GW328.out))) _).trans (hHeld.1)))))), ((cell_far (p := ⟨gb328, _, none⟩) (by first | exact Nat.ne_of_lt (Nat.lt_of_lt_of_le (by have := World.block_lt_of_cell? _ _ hw326_1; first | rwa [add_block] at this | exact this) GW328.out) | (rw [add_block]; exact Nat.ne_of_lt (Nat.lt_of_lt_of_le (by have := World.block_lt_of_cell? _ _ hw326_1; first | rwa [add_block] at this | exact this) GW328.out)) | (show (Addr.add _ _).block ≠ _; rw [add_block]; exact Nat.ne_of_lt (Nat.lt_of_lt_of_le (by have := World.block_lt_of_cell? _ _ hw326_1; first | rwa [add_block] at this | exact this) GW328.out)) | (dsimp only; exact Nat.ne_of_lt (Nat.lt_of_lt_of_le (by have := World.block_lt_of_cell? _ _ hw326_1; first | rwa [add_block] at this | exact this) GW328.out))) _).trans (((cell_far (p := ⟨gb328, _, none⟩) (by first | exact Nat.ne_of_lt (Nat.lt_of_lt_of_le (by have := World.block_lt_of_cell? _ _ hw326_1; first | rwa [add_block] at this | exact this) GW328.out) | (rw [add_block]; exact Nat.ne_of_lt (Nat.lt_of_lt_of_le (by have := World.block_lt_of_cell? _ _ hw326_1; first | rwa [add_block] at this | exact this) GW328.out)) | (show (Addr.add _ _).block ≠ _; rw [add_block]; exact Nat.ne_of_lt (Nat.lt_of_lt_of_le (by have := World.block_lt_of_cell? _ _ hw326_1; first | rwa [add_block] at this | exact this) GW328.out)) | (dsimp only; exact Nat.ne_of_lt (Nat.lt_of_lt_of_le (by have := World.block_lt_of_cell? _ _ hw326_1; first | rwa [add_block] at this | exact this) GW328.out))) _).trans (((cell_far (p := ⟨gb328, _, none⟩) (by first | exact Nat.ne_of_lt (Nat.lt_of_lt_of_le (by have := World.block_lt_of_cell? _ _ hw326_1; first | rwa [add_block] at this | exact this) GW328.out) | (rw [add_block]; exact Nat.ne_of_lt (Nat.lt_of_lt_of_le (by have := World.block_lt_of_cell? _ _ hw326_1; first | rwa [add_block] at this | exact this) GW328.out)) | (show (Addr.add _ _).block ≠ _; rw [add_block]; exact Nat.ne_of_lt (Nat.lt_of_lt_of_le (by have := World.block_lt_of_cell? _ _ hw326_1; first | rwa [add_block] at this | exact this) GW328.out)) | (dsimp only; exact Nat.ne_of_lt (Nat.lt_of_lt_of_le (by have := World.block_lt_of_cell? _ _ hw326_1; first | rwa [add_block] at this | exact this) GW328.out))) _).trans (hHeld.2.1)))))), ((cell_far (p := ⟨gb328, _, none⟩) (by first | exact Nat.ne_of_lt (Nat.lt_of_lt_of_le (by have := World.block_lt_of_cell? _ _ hw326_2; first | rwa [add_block] at this | exact this) GW328.out) | (rw [add_block]; exact Nat.ne_of_lt (Nat.lt_of_lt_of_le (by have := World.block_lt_of_cell? _ _ hw326_2; first | rwa [add_block] at this | exact this) GW328.out)) | (show (Addr.add _ _).block ≠ _; rw [add_block]; exact Nat.ne_of_lt (Nat.lt_of_lt_of_le (by have := World.block_lt_of_cell? _ _ hw326_2; first | rwa [add_block] at this | exact this) GW328.out)) | (dsimp only; exact Nat.ne_of_lt (Nat.lt_of_lt_of_le (by have := World.block_lt_of_cell? _ _ hw326_2; first | rwa [add_block] at this | exact this) GW328.out))) _).trans (((cell_far (p := ⟨gb328, _, none⟩) (by first | exact Nat.ne_of_lt (Nat.lt_of_lt_of_le (by have := World.block_lt_of_cell? _ _ hw326_2; first | rwa [add_block] at this | exact this) GW328.out) | (rw [add_block]; exact Nat.ne_of_lt (Nat.lt_of_lt_of_le (by have := World.block_lt_of_cell? _ _ hw326_2; first | rwa [add_block] at this | exact this) GW328.out)) | (show (Addr.add _ _).block ≠ _; rw [add_block]; exact Nat.ne_of_lt (Nat.lt_of_lt_of_le (by have := World.block_lt_of_cell? _ _ hw326_2; first | rwa [add_block] at this | exact this) GW328.out)) | (dsimp only; exact Nat.ne_of_lt (Nat.lt_of_lt_of_le (by have := World.block_lt_of_cell? _ _ hw326_2; first | rwa [add_block] at this | exact this) GW328.out))) _).trans (((cell_far (p := ⟨gb328, _, none⟩) (by first | exact Nat.ne_of_lt (Nat.lt_of_lt_of_le (by have := World.block_lt_of_cell? _ _ hw326_2; first | rwa [add_block] at this | exact this) GW328.out) | (rw [add_block]; exact Nat.ne_of_lt (Nat.lt_of_lt_of_le (by have := World.block_lt_of_cell? _ _ hw326_2; first | rwa [add_block] at this | exact this) GW328.out)) | (show (Addr.add _ _).block ≠ _; rw [add_block]; exact Nat.ne_of_lt (Nat.lt_of_lt_of_le (by have := World.block_lt_of_cell? _ _ hw326_2; first | rwa [add_block] at this | exact this) GW328.out)) | (dsimp only; exact Nat.ne_of_lt (Nat.lt_of_lt_of_le (by have := World.block_lt_of_cell? _ _ hw326_2; first | rwa [add_block] at this | exact this) GW328.out))) _).trans (hHeld.2.2.1)))))), ((cell_far (p := ⟨gb328, _, none⟩) (by first | exact Nat.ne_of_lt (Nat.lt_of_lt_of_le (by have := World.block_lt_of_cell? _ _ hw327_0; first | rwa [add_block] at this | exact this) GW328.out) | (rw [add_block]; exact Nat.ne_of_lt (Nat.lt_of_lt_of_le (by have := World.block_lt_of_cell? _ _ hw327_0; first | rwa [add_block] at this | exact this) GW328.out)) | (show (Addr.add _ _).block ≠ _; rw [add_block]; exact Nat.ne_of_lt (Nat.lt_of_lt_of_le (by have := World.block_lt_of_cell? _ _ hw327_0; first | rwa [add_block] at this | exact this) GW328.out)) | (dsimp only; exact Nat.ne_of_lt (Nat.lt_of_lt_of_le (by have := World.block_lt_of_cell? _ _ hw327_0; first | rwa [add_block] at this | exact this) GW328.out))) _).trans (((cell_far (p := ⟨gb328, _, none⟩) (by first | exact Nat.ne_of_lt (Nat.lt_of_lt_of_le (by have := World.block_lt_of_cell? _ _ hw327_0; first | rwa [add_block] at this | exact this) GW328.out) | (rw [add_block]; exact Nat.ne_of_lt (Nat.lt_of_lt_of_le (by have := World.block_lt_of_cell? _ _ hw327_0; first | rwa [add_block] at this | exact this) GW328.out)) | (show (Addr.add _ _).block ≠ _; rw [add_block]; exact Nat.ne_of_lt (Nat.lt_of_lt_of_le (by have := World.block_lt_of_cell? _ _ hw327_0; first | rwa [add_block] at this | exact this) GW328.out)) | (dsimp only; exact Nat.ne_of_lt (Nat.lt_of_lt_of_le (by have := World.block_lt_of_cell? _ _ hw327_0; first | rwa [add_block] at this | exact this) GW328.out))) _).trans (((cell_far (p := ⟨gb328, _, none⟩) (by first | exact Nat.ne_of_lt (Nat.lt_of_lt_of_le (by have := World.block_lt_of_cell? _ _ hw327_0; first | rwa [add_block] at this | exact this) GW328.out) | (rw [add_block]; exact Nat.ne_of_lt (Nat.lt_of_lt_of_le (by have := World.block_lt_of_cell? _ _ hw327_0; first | rwa [add_block] at this | exact this) GW328.out)) | (show (Addr.add _ _).block ≠ _; rw [add_block]; exact Nat.ne_of_lt (Nat.lt_of_lt_of_le (by have := World.block_lt_of_cell? _ _ hw327_0; first | rwa [add_block] at this | exact this) GW328.out)) | (dsimp only; exact Nat.ne_of_lt (Nat.lt_of_lt_of_le (by have := World.block_lt_of_cell? _ _ hw327_0; first | rwa [add_block] at this | exact this) GW328.out))) _).trans (hHeld.2.2.2.1)))))), ((cell_far (p := ⟨gb328, _, none⟩) (by first | exact Nat.ne_of_lt (Nat.lt_of_lt_of_le (by have := World.block_lt_of_cell? _ _ hw327_1; first | rwa [add_block] at this | exact this) GW328.out) | (rw [add_block]; exact Nat.ne_of_lt (Nat.lt_of_lt_of_le (by have := World.block_lt_of_cell? _ _ hw327_1; first | rwa [add_block] at this | exact this) GW328.out)) | (show (Addr.add _ _).block ≠ _; rw [add_block]; exact Nat.ne_of_lt (Nat.lt_of_lt_of_le (by have := World.block_lt_of_cell? _ _ hw327_1; first | rwa [add_block] at this | exact this) GW328.out)) | (dsimp only; exact Nat.ne_of_lt (Nat.lt_of_lt_of_le (by have := World.block_lt_of_cell? _ _ hw327_1; first | rwa [add_block] at this | exact this) GW328.out))) _).trans (((cell_far (p := ⟨gb328, _, none⟩) (by first | exact Nat.ne_of_lt (Nat.lt_of_lt_of_le (by have := World.block_lt_of_cell? _ _ hw327_1; first | rwa [add_block] at this | exact this) GW328.out) | (rw [add_block]; exact Nat.ne_of_lt (Nat.lt_of_lt_of_le (by have := World.block_lt_of_cell? _ _ hw327_1; first | rwa [add_block] at this | exact this) GW328.out)) | (show (Addr.add _ _).block ≠ _; rw [add_block]; exact Nat.ne_of_lt (Nat.lt_of_lt_of_le (by have := World.block_lt_of_cell? _ _ hw327_1; first | rwa [add_block] at this | exact this) GW328.out)) | (dsimp only; exact Nat.ne_of_lt (Nat.lt_of_lt_of_le (by have := World.block_lt_of_cell? _ _ hw327_1; first | rwa [add_block] at this | exact this) GW328.out))) _).trans (((cell_far (p := ⟨gb328, _, none⟩) (by first | exact Nat.ne_of_lt (Nat.lt_of_lt_of_le (by have := World.block_lt_of_cell? _ _ hw327_1; first | rwa [add_block] at this | exact this) GW328.out) | (rw [add_block]; exact Nat.ne_of_lt (Nat.lt_of_lt_of_le (by have := World.block_lt_of_cell? _ _ hw327_1; first | rwa [add_block] at this | exact this) GW328.out)) | (show (Addr.add _ _).block ≠ _; rw [add_block]; exact Nat.ne_of_lt (Nat.lt_of_lt_of_le (by have := World.block_lt_of_cell? _ _ hw327_1; first | rwa [add_block] at this | exact this) GW328.out)) | (dsimp only; exact Nat.ne_of_lt (Nat.lt_of_lt_of_le (by have := World.block_lt_of_cell? _ _ hw327_1; first | rwa [add_block] at this | exact this) GW328.out))) _).trans (hHeld.2.2.2.2.1)))))), ((cell_far (p := ⟨gb328, _, none⟩) (by first | exact Nat.ne_of_lt (Nat.lt_of_lt_of_le (by have := World.block_lt_of_cell? _ _ hw327_2; first | rwa [add_block] at this | exact this) GW328.out) | (rw [add_block]; exact Nat.ne_of_lt (Nat.lt_of_lt_of_le (by have := World.block_lt_of_cell? _ _ hw327_2; first | rwa [add_block] at this | exact this) GW328.out)) | (show (Addr.add _ _).block ≠ _; rw [add_block]; exact Nat.ne_of_lt (Nat.lt_of_lt_of_le (by have := World.block_lt_of_cell? _ _ hw327_2; first | rwa [add_block] at this | exact this) GW328.out)) | (dsimp only; exact Nat.ne_of_lt (Nat.lt_of_lt_of_le (by have := World.block_lt_of_cell? _ _ hw327_2; first | rwa [add_block] at this | exact this) GW328.out))) _).trans (((cell_far (p := ⟨gb328, _, none⟩) (by first | exact Nat.ne_of_lt (Nat.lt_of_lt_of_le (by have := World.block_lt_of_cell? _ _ hw327_2; first | rwa [add_block] at this | exact this) GW328.out) | (rw [add_block]; exact Nat.ne_of_lt (Nat.lt_of_lt_of_le (by have := World.block_lt_of_cell? _ _ hw327_2; first | rwa [add_block] at this | exact this) GW328.out)) | (show (Addr.add _ _).block ≠ _; rw [add_block]; exact Nat.ne_of_lt (Nat.lt_of_lt_of_le (by have := World.block_lt_of_cell? _ _ hw327_2; first | rwa [add_block] at this | exact this) GW328.out)) | (dsimp only; exact Nat.ne_of_lt (Nat.lt_of_lt_of_le (by have := World.block_lt_of_cell? _ _ hw327_2; first | rwa [add_block] at this | exact this) GW328.out))) _).trans (((cell_far (p := ⟨gb328, _, none⟩) (by first | exact Nat.ne_of_lt (Nat.lt_of_lt_of_le (by have := World.block_lt_of_cell? _ _ hw327_2; first | rwa [add_block] at this | exact this) GW328.out) | (rw [add_block]; exact Nat.ne_of_lt (Nat.lt_of_lt_of_le (by have := World.block_lt_of_cell? _ _ hw327_2; first | rwa [add_block] at this | exact this) GW328.out)) | (show (Addr.add _ _).block ≠ _; rw [add_block]; exact Nat.ne_of_lt (Nat.lt_of_lt_of_le (by have := World.block_lt_of_cell? _ _ hw327_2; first | rwa [add_block] at this | exact this) GW328.out)) | (dsimp only; exact Nat.ne_of_lt (Nat.lt_of_lt_of_le (by have := World.block_lt_of_cell? _ _ hw327_2; first | rwa [add_block] at this | exact this) GW328.out))) _).trans (hHeld.2.2.2.2.2))))))⟩ (fun hHeld => ?_)
            clear hK K
            refine one_ (i := 12) (N := none) #[true, true, true, true, true, true, true, true, true, true, true, true, true] rfl rfl (one_of HT_.out (by kernel_rfl)) (by decide) (fun K hK => ?_)
            have hs52 : w48.cell? ⟨gb329, 0, none⟩ = some (.int .i64 0) := (blk_cell BK329.out 0).trans rfl
            have hfs52 := blk_frozen BK329.out 0
            have hns52_0 := NB328_329.out
            have hms52_0 := NB329_328.out
            have hs53 : w48.cell? ⟨gb329, 1, none⟩ = some (.int .i64 0) := (blk_cell BK329.out 1).trans rfl
            have hfs53 := blk_frozen BK329.out 1
            have hns53_0 := NB328_329.out
            have hms53_0 := NB329_328.out
            have hs54 : w48.cell? ⟨gb329, 2, none⟩ = some (.string (⟨#[]⟩ : ByteArray)) := (blk_cell BK329.out 2).trans rfl
            have hfs54 := blk_frozen BK329.out 2
            have hns54_0 := NB328_329.out
            have hms54_0 := NB329_328.out
            refine skip_ (w1 := ?_) (by rfl) rfl ?_ ?_
            rotate_left
            ·go_simp
             rfl
            refine hK.out _ _ ⟨((cell_far (p := ⟨gb329, _, none⟩) (by first | exact Nat.ne_of_lt (Nat.lt_of_lt_of_le (by have := World.block_lt_of_cell? _ _ hw326_0; first | rwa [add_block] at this | exact this) GW329.out) | (rw [add_block]; exact Nat.ne_of_lt (Nat.lt_of_lt_of_le (by have := World.block_lt_of_cell? _ _ hw326_0; first | rwa [add_block] at this | exact this) GW329.out)) | (show (Addr.add _ _).block ≠ _; rw [add_block]; exact Nat.ne_of_lt (Nat.lt_of_lt_of_le (by have := World.block_lt_of_cell? _ _ hw326_0; first | rwa [add_block] at this | exact this) GW329.out)) | (dsimp only; exact Nat.ne_of_lt (Nat.lt_of_lt_of_le (by have := World.block_lt_of_cell? _ _ hw326_0; first | rwa [add_block] at this | exact this) GW329.out))) _).trans (((cell_far (p := ⟨gb329, _, none⟩) (by first | exact Nat.ne_of_lt (Nat.lt_of_lt_of_le (by have := World.block_lt_of_cell? _ _ hw326_0; first | rwa [add_block] at this | exact this) GW329.out) | (rw [add_block]; exact Nat.ne_of_lt (Nat.lt_of_lt_of_le (by have := World.block_lt_of_cell? _ _ hw326_0; first | rwa [add_block] at this | exact this) GW329.out)) | (show (Addr.add _ _).block ≠ _; rw [add_block]; exact Nat.ne_of_lt (Nat.lt_of_lt_of_le (by have := World.block_lt_of_cell? _ _ hw326_0; first | rwa [add_block] at this | exact this) GW329.out)) | (dsimp only; exact Nat.ne_of_lt (Nat.lt_of_lt_of_le (by have := World.block_lt_of_cell? _ _ hw326_0; first | rwa [add_block] at this | exact this) GW329.out))) _).trans (((cell_far (p := ⟨gb329, _, none⟩) (by first | exact Nat.ne_of_lt (Nat.lt_of_lt_of_le (by have := World.block_lt_of_cell? _ _ hw326_0; first | rwa [add_block] at this | exact this) GW329.out) | (rw [add_block]; exact Nat.ne_of_lt (Nat.lt_of_lt_of_le (by have := World.block_lt_of_cell? _ _ hw326_0; first | rwa [add_block] at this | exact this) GW329.out)) | (show (Addr.add _ _).block ≠ _; rw [add_block]; exact Nat.ne_of_lt (Nat.lt_of_lt_of_le (by have := World.block_lt_of_cell? _ _ hw326_0; first | rwa [add_block] at this | exact this) GW329.out)) | (dsimp only; exact Nat.ne_of_lt (Nat.lt_of_lt_of_le (by have := World.block_lt_of_cell? _ _ hw326_0; first | rwa [add_block] at this | exact this) GW329.out))) _).trans (hHeld.1)))))), ((cell_far (p := ⟨gb329, _, none⟩) (by first | exact Nat.ne_of_lt (Nat.lt_of_lt_of_le (by have := World.block_lt_of_cell? _ _ hw326_1; first | rwa [add_block] at this | exact this) GW329.out) | (rw [add_block]; exact Nat.ne_of_lt (Nat.lt_of_lt_of_le (by have := World.block_lt_of_cell? _ _ hw326_1; first | rwa [add_block] at this | exact this) GW329.out)) | (show (Addr.add _ _).block ≠ _; rw [add_block]; exact Nat.ne_of_lt (Nat.lt_of_lt_of_le (by have := World.block_lt_of_cell? _ _ hw326_1; first | rwa [add_block] at this | exact this) GW329.out)) | (dsimp only; exact Nat.ne_of_lt (Nat.lt_of_lt_of_le (by have := World.block_lt_of_cell? _ _ hw326_1; first | rwa [add_block] at this | exact this) GW329.out))) _).trans (((cell_far (p := ⟨gb329, _, none⟩) (by first | exact Nat.ne_of_lt (Nat.lt_of_lt_of_le (by have := World.block_lt_of_cell? _ _ hw326_1; first | rwa [add_block] at this | exact this) GW329.out) | (rw [add_block]; exact Nat.ne_of_lt (Nat.lt_of_lt_of_le (by have := World.block_lt_of_cell? _ _ hw326_1; first | rwa [add_block] at this | exact this) GW329.out)) | (show (Addr.add _ _).block ≠ _; rw [add_block]; exact Nat.ne_of_lt (Nat.lt_of_lt_of_le (by have := World.block_lt_of_cell? _ _ hw326_1; first | rwa [add_block] at this | exact this) GW329.out)) | (dsimp only; exact Nat.ne_of_lt (Nat.lt_of_lt_of_le (by have := World.block_lt_of_cell? _ _ hw326_1; first | rwa [add_block] at this | exact this) GW329.out))) _).trans (((cell_far (p := ⟨gb329, _, none⟩) (by first | exact Nat.ne_of_lt (Nat.lt_of_lt_of_le (by have := World.block_lt_of_cell? _ _ hw326_1; first | rwa [add_block] at this | exact this) GW329.out) | (rw [add_block]; exact Nat.ne_of_lt (Nat.lt_of_lt_of_le (by have := World.block_lt_of_cell? _ _ hw326_1; first | rwa [add_block] at this | exact this) GW329.out)) | (show (Addr.add _ _).block ≠ _; rw [add_block]; exact Nat.ne_of_lt (Nat.lt_of_lt_of_le (by have := World.block_lt_of_cell? _ _ hw326_1; first | rwa [add_block] at this | exact this) GW329.out)) | (dsimp only; exact Nat.ne_of_lt (Nat.lt_of_lt_of_le (by have := World.block_lt_of_cell? _ _ hw326_1; first | rwa [add_block] at this | exact this) GW329.out))) _).trans (hHeld.2.1)))))), ((cell_far (p := ⟨gb329, _, none⟩) (by first | exact Nat.ne_of_lt (Nat.lt_of_lt_of_le (by have := World.block_lt_of_cell? _ _ hw326_2; first | rwa [add_block] at this | exact this) GW329.out) | (rw [add_block]; exact Nat.ne_of_lt (Nat.lt_of_lt_of_le (by have := World.block_lt_of_cell? _ _ hw326_2; first | rwa [add_block] at this | exact this) GW329.out)) | (show (Addr.add _ _).block ≠ _; rw [add_block]; exact Nat.ne_of_lt (Nat.lt_of_lt_of_le (by have := World.block_lt_of_cell? _ _ hw326_2; first | rwa [add_block] at this | exact this) GW329.out)) | (dsimp only; exact Nat.ne_of_lt (Nat.lt_of_lt_of_le (by have := World.block_lt_of_cell? _ _ hw326_2; first | rwa [add_block] at this | exact this) GW329.out))) _).trans (((cell_far (p := ⟨gb329, _, none⟩) (by first | exact Nat.ne_of_lt (Nat.lt_of_lt_of_le (by have := World.block_lt_of_cell? _ _ hw326_2; first | rwa [add_block] at this | exact this) GW329.out) | (rw [add_block]; exact Nat.ne_of_lt (Nat.lt_of_lt_of_le (by have := World.block_lt_of_cell? _ _ hw326_2; first | rwa [add_block] at this | exact this) GW329.out)) | (show (Addr.add _ _).block ≠ _; rw [add_block]; exact Nat.ne_of_lt (Nat.lt_of_lt_of_le (by have := World.block_lt_of_cell? _ _ hw326_2; first | rwa [add_block] at this | exact this) GW329.out)) | (dsimp only; exact Nat.ne_of_lt (Nat.lt_of_lt_of_le (by have := World.block_lt_of_cell? _ _ hw326_2; first | rwa [add_block] at this | exact this) GW329.out))) _).trans (((cell_far (p := ⟨gb329, _, none⟩) (by first | exact Nat.ne_of_lt (Nat.lt_of_lt_of_le (by have := World.block_lt_of_cell? _ _ hw326_2; first | rwa [add_block] at this | exact this) GW329.out) | (rw [add_block]; exact Nat.ne_of_lt (Nat.lt_of_lt_of_le (by have := World.block_lt_of_cell? _ _ hw326_2; first | rwa [add_block] at this | exact this) GW329.out)) | (show (Addr.add _ _).block ≠ _; rw [add_block]; exact Nat.ne_of_lt (Nat.lt_of_lt_of_le (by have := World.block_lt_of_cell? _ _ hw326_2; first | rwa [add_block] at this | exact this) GW329.out)) | (dsimp only; exact Nat.ne_of_lt (Nat.lt_of_lt_of_le (by have := World.block_lt_of_cell? _ _ hw326_2; first | rwa [add_block] at this | exact this) GW329.out))) _).trans (hHeld.2.2.1)))))), ((cell_far (p := ⟨gb329, _, none⟩) (by first | exact Nat.ne_of_lt (Nat.lt_of_lt_of_le (by have := World.block_lt_of_cell? _ _ hw327_0; first | rwa [add_block] at this | exact this) GW329.out) | (rw [add_block]; exact Nat.ne_of_lt (Nat.lt_of_lt_of_le (by have := World.block_lt_of_cell? _ _ hw327_0; first | rwa [add_block] at this | exact this) GW329.out)) | (show (Addr.add _ _).block ≠ _; rw [add_block]; exact Nat.ne_of_lt (Nat.lt_of_lt_of_le (by have := World.block_lt_of_cell? _ _ hw327_0; first | rwa [add_block] at this | exact this) GW329.out)) | (dsimp only; exact Nat.ne_of_lt (Nat.lt_of_lt_of_le (by have := World.block_lt_of_cell? _ _ hw327_0; first | rwa [add_block] at this | exact this) GW329.out))) _).trans (((cell_far (p := ⟨gb329, _, none⟩) (by first | exact Nat.ne_of_lt (Nat.lt_of_lt_of_le (by have := World.block_lt_of_cell? _ _ hw327_0; first | rwa [add_block] at this | exact this) GW329.out) | (rw [add_block]; exact Nat.ne_of_lt (Nat.lt_of_lt_of_le (by have := World.block_lt_of_cell? _ _ hw327_0; first | rwa [add_block] at this | exact this) GW329.out)) | (show (Addr.add _ _).block ≠ _; rw [add_block]; exact Nat.ne_of_lt (Nat.lt_of_lt_of_le (by have := World.block_lt_of_cell? _ _ hw327_0; first | rwa [add_block] at this | exact this) GW329.out)) | (dsimp only; exact Nat.ne_of_lt (Nat.lt_of_lt_of_le (by have := World.block_lt_of_cell? _ _ hw327_0; first | rwa [add_block] at this | exact this) GW329.out))) _).trans (((cell_far (p := ⟨gb329, _, none⟩) (by first | exact Nat.ne_of_lt (Nat.lt_of_lt_of_le (by have := World.block_lt_of_cell? _ _ hw327_0; first | rwa [add_block] at this | exact this) GW329.out) | (rw [add_block]; exact Nat.ne_of_lt (Nat.lt_of_lt_of_le (by have := World.block_lt_of_cell? _ _ hw327_0; first | rwa [add_block] at this | exact this) GW329.out)) | (show (Addr.add _ _).block ≠ _; rw [add_block]; exact Nat.ne_of_lt (Nat.lt_of_lt_of_le (by have := World.block_lt_of_cell? _ _ hw327_0; first | rwa [add_block] at this | exact this) GW329.out)) | (dsimp only; exact Nat.ne_of_lt (Nat.lt_of_lt_of_le (by have := World.block_lt_of_cell? _ _ hw327_0; first | rwa [add_block] at this | exact this) GW329.out))) _).trans (hHeld.2.2.2.1)))))), ((cell_far (p := ⟨gb329, _, none⟩) (by first | exact Nat.ne_of_lt (Nat.lt_of_lt_of_le (by have := World.block_lt_of_cell? _ _ hw327_1; first | rwa [add_block] at this | exact this) GW329.out) | (rw [add_block]; exact Nat.ne_of_lt (Nat.lt_of_lt_of_le (by have := World.block_lt_of_cell? _ _ hw327_1; first | rwa [add_block] at this | exact this) GW329.out)) | (show (Addr.add _ _).block ≠ _; rw [add_block]; exact Nat.ne_of_lt (Nat.lt_of_lt_of_le (by have := World.block_lt_of_cell? _ _ hw327_1; first | rwa [add_block] at this | exact this) GW329.out)) | (dsimp only; exact Nat.ne_of_lt (Nat.lt_of_lt_of_le (by have := World.block_lt_of_cell? _ _ hw327_1; first | rwa [add_block] at this | exact this) GW329.out))) _).trans (((cell_far (p := ⟨gb329, _, none⟩) (by first | exact Nat.ne_of_lt (Nat.lt_of_lt_of_le (by have := World.block_lt_of_cell? _ _ hw327_1; first | rwa [add_block] at this | exact this) GW329.out) | (rw [add_block]; exact Nat.ne_of_lt (Nat.lt_of_lt_of_le (by have := World.block_lt_of_cell? _ _ hw327_1; first | rwa [add_block] at this | exact this) GW329.out)) | (show (Addr.add _ _).block ≠ _; rw [add_block]; exact Nat.ne_of_lt (Nat.lt_of_lt_of_le (by have := World.block_lt_of_cell? _ _ hw327_1; first | rwa [add_block] at this | exact this) GW329.out)) | (dsimp only; exact Nat.ne_of_lt (Nat.lt_of_lt_of_le (by have := World.block_lt_of_cell? _ _ hw327_1; first | rwa [add_block] at this | exact this) GW329.out))) _).trans (((cell_far (p := ⟨gb329, _, none⟩) (by first | exact Nat.ne_of_lt (Nat.lt_of_lt_of_le (by have := World.block_lt_of_cell? _ _ hw327_1; first | rwa [add_block] at this | exact this) GW329.out) | (rw [add_block]; exact Nat.ne_of_lt (Nat.lt_of_lt_of_le (by have := World.block_lt_of_cell? _ _ hw327_1; first | rwa [add_block] at this | exact this) GW329.out)) | (show (Addr.add _ _).block ≠ _; rw [add_block]; exact Nat.ne_of_lt (Nat.lt_of_lt_of_le (by have := World.block_lt_of_cell? _ _ hw327_1; first | rwa [add_block] at this | exact this) GW329.out)) | (dsimp only; exact Nat.ne_of_lt (Nat.lt_of_lt_of_le (by have := World.block_lt_of_cell? _ _ hw327_1; first | rwa [add_block] at this | exact this) GW329.out))) _).trans (hHeld.2.2.2.2.1)))))), ((cell_far (p := ⟨gb329, _, none⟩) (by first | exact Nat.ne_of_lt (Nat.lt_of_lt_of_le (by have := World.block_lt_of_cell? _ _ hw327_2; first | rwa [add_block] at this | exact this) GW329.out) | (rw [add_block]; exact Nat.ne_of_lt (Nat.lt_of_lt_of_le (by have := World.block_lt_of_cell? _ _ hw327_2; first | rwa [add_block] at this | exact this) GW329.out)) | (show (Addr.add _ _).block ≠ _; rw [add_block]; exact Nat.ne_of_lt (Nat.lt_of_lt_of_le (by have := World.block_lt_of_cell? _ _ hw327_2; first | rwa [add_block] at this | exact this) GW329.out)) | (dsimp only; exact Nat.ne_of_lt (Nat.lt_of_lt_of_le (by have := World.block_lt_of_cell? _ _ hw327_2; first | rwa [add_block] at this | exact this) GW329.out))) _).trans (((cell_far (p := ⟨gb329, _, none⟩) (by first | exact Nat.ne_of_lt (Nat.lt_of_lt_of_le (by have := World.block_lt_of_cell? _ _ hw327_2; first | rwa [add_block] at this | exact this) GW329.out) | (rw [add_block]; exact Nat.ne_of_lt (Nat.lt_of_lt_of_le (by have := World.block_lt_of_cell? _ _ hw327_2; first | rwa [add_block] at this | exact this) GW329.out)) | (show (Addr.add _ _).block ≠ _; rw [add_block]; exact Nat.ne_of_lt (Nat.lt_of_lt_of_le (by have := World.block_lt_of_cell? _ _ hw327_2; first | rwa [add_block] at this | exact this) GW329.out)) | (dsimp only; exact Nat.ne_of_lt (Nat.lt_of_lt_of_le (by have := World.block_lt_of_cell? _ _ hw327_2; first | rwa [add_block] at this | exact this) GW329.out))) _).trans (((cell_far (p := ⟨gb329, _, none⟩) (by first | exact Nat.ne_of_lt (Nat.lt_of_lt_of_le (by have := World.block_lt_of_cell? _ _ hw327_2; first | rwa [add_block] at this | exact this) GW329.out) | (rw [add_block]; exact Nat.ne_of_lt (Nat.lt_of_lt_of_le (by have := World.block_lt_of_cell? _ _ hw327_2; first | rwa [add_block] at this | exact this) GW329.out)) | (show (Addr.add _ _).block ≠ _; rw [add_block]; exact Nat.ne_of_lt (Nat.lt_of_lt_of_le (by have := World.block_lt_of_cell? _ _ hw327_2; first | rwa [add_block] at this | exact this) GW329.out)) | (dsimp only; exact Nat.ne_of_lt (Nat.lt_of_lt_of_le (by have := World.block_lt_of_cell? _ _ hw327_2; first | rwa [add_block] at this | exact this) GW329.out))) _).trans (hHeld.2.2.2.2.2))))))⟩ (fun hHeld => ?_)
            clear hK K
            refine done_ (done_of HT_.out (by kernel_rfl)) ?_
            have hnb55 := NB328_329.out
            have hnc55 := NB329_328.out
            have hcz56_0 : w48.cell? ⟨gb328, 0, none⟩ = some (.int .i64 0) := (blk_cell BK328.out 0).trans rfl
            have hcz56_1 : w48.cell? ⟨gb328, 1, none⟩ = some (.int .i64 0) := (blk_cell BK328.out 1).trans rfl
            have hcz56_2 : w48.cell? ⟨gb328, 2, none⟩ = some (.string (⟨#[]⟩ : ByteArray)) := (blk_cell BK328.out 2).trans rfl
            have hfz56_0 := blk_frozen BK328.out 0
            have hfz56_1 := blk_frozen BK328.out 1
            have hfz56_2 := blk_frozen BK328.out 2
            have hcz57_0 : w48.cell? ⟨gb329, 0, none⟩ = some (.int .i64 0) := (blk_cell BK329.out 0).trans rfl
            have hcz57_1 : w48.cell? ⟨gb329, 1, none⟩ = some (.int .i64 0) := (blk_cell BK329.out 1).trans rfl
            have hcz57_2 : w48.cell? ⟨gb329, 2, none⟩ = some (.string (⟨#[]⟩ : ByteArray)) := (blk_cell BK329.out 2).trans rfl
            have hfz57_0 := blk_frozen BK329.out 0
            have hfz57_1 := blk_frozen BK329.out 1
            have hfz57_2 := blk_frozen BK329.out 2
            try go_wp2
            go_roundg k2
            case measure => have := HK1.out; have := HK2.out; omega
            case rel => exact ⟨(wrap64 (x7_2 + 1)), (by first | rfl | (simp; done) | (simp [*]; done)), H', ⟨by have := HK1.out; have := HK2.out; omega⟩, ⟨pxb HB⟩⟩
          ·rw [if_neg c30] at H
           exact absurd H (by simp)
         ·rw [if_neg c29] at H
          exact absurd H (by simp)
        ·rw [if_neg c28] at H
         exact absurd H (by simp)
       ·rw [if_neg c26] at H
        have c26b0 : decide (x7_2 < (l1.length : Int)) = false := decide_eq_false c26
        clear c26
        obtain rfl := Option.some.inj H
        go_wp2
        go_ret
        exact ⟨by first | rfl | (simp [errW_none, errW_some] <;> rfl) | (simp [*, errW_none, errW_some] <;> rfl), pxb HB⟩

end Go.Proofs.Ytfnemjejfccecaa.X
