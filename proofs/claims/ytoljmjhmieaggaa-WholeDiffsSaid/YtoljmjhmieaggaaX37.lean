/- What the program's functions answer, as Lean functions, and that each call does just that; no condition. Written by a program (px.py) out of the translation. -/
import Derived.Test.YtoljmjhmieaggaaM2
import Derived.Test.YtoljmjhmieaggaaX29
import Derived.Test.YtoljmjhmieaggaaM5
namespace Go.Proofs.Ytoljmjhmieaggaa.X
open Go.RowKit Go.Proofs.YtoljmjhmieaggaaW.PrintWords Go.Proofs.YtoljmjhmieaggaaW.PrintLast Go.Proofs.YtoljmjhmieaggaaW.PrintMore
attribute [local go_sem] max2_int min2_int max_two min_two max_three min_three max_four min_four   -- for this text's walks alone
set_option linter.unusedVariables false
set_option linter.unusedSimpArgs false

/-! ### edit_grown: function 37 -/
def edit_grown.l0 : Nat → Int → List (S41) → Int → Int → Option (Int)
 | 0, _, _, _, _ => none
 | k + 1, x0, x7, x8, x9 => if x9 < x8 then (if 0 ≤ x9 then (if x9 < (x7.length : Int) then ((span_Len.f k ((rd_T41 x7 x9).f0.f0) ((rd_T41 x7 x9).f0.f1)).bind fun t381 => (edit_grown.l0 k (wrap64 (x0 + (wrap64 ((((rd_T41 x7 x9).f1).size : Int) - t381)))) x7 x8 (wrap64 (x9 + 1)))) else (none)) else (none)) else (some x0)
def edit_grown.f (k : Nat) (a0 : Int) (l1 : List (S41)) : Option (Int) := edit_grown.l0 k a0 l1 (l1.length : Int) 0
theorem edit_grown.mono_l : ∀ k, (∀ y0 y1 y2 y3, LeO (edit_grown.l0 k y0 y1 y2 y3) (edit_grown.l0 (k + 1) y0 y1 y2 y3))
 | 0 => fun _ _ _ _ r h => by simp [edit_grown.l0] at h
 | k + 1 => by
  have ih0 := edit_grown.mono_l k
  ·intro y0 y1 y2 y3
   unfold edit_grown.l0
   repeat' first
   | (with_reducible exact ih0 _ _ _ _)
   | (with_reducible exact span_Len.mono _ _ _)
   | (with_reducible exact LeO.refl _)
   | (with_reducible exact LeO.none _)
   | (with_reducible refine LeO.ite ?_ ?_)
   | (with_reducible refine LeO.bind ?_ (fun _ => ?_))
   | exact ih0 _ _ _ _
   | exact span_Len.mono _ _ _
   | exact LeO.none _
   | refine LeO.ite ?_ ?_
   | refine LeO.bind ?_ (fun _ => ?_)
theorem edit_grown.mono : ∀ a0 a1 k, LeO (edit_grown.f k a0 a1) (edit_grown.f (k + 1) a0 a1) := by
 intro a0 a1 k
 have ih0 := edit_grown.mono_l k
 unfold edit_grown.f
 repeat' first
   | (with_reducible exact ih0 _ _ _ _)
   | (with_reducible exact span_Len.mono _ _ _)
   | (with_reducible exact LeO.refl _)
   | (with_reducible exact LeO.none _)
   | (with_reducible refine LeO.ite ?_ ?_)
   | (with_reducible refine LeO.bind ?_ (fun _ => ?_))
   | exact ih0 _ _ _ _
   | exact span_Len.mono _ _ _
   | exact LeO.none _
   | refine LeO.ite ?_ ?_
   | refine LeO.bind ?_ (fun _ => ?_)
def edit_grown.T4 : Bool × List (List Nat × List Nat) := (true, [([], []), ([], []), ([1], [1]), ([2], [2]), ([], []), ([4], [4]), ([5], [5]), ([3, 6], [3, 6]), ([0, 7], [0, 7]), ([8, 6, 0, 1, 2, 3, 4, 5, 6, 7, 8], [0, 8])])
def edit_grown.B4 : List Nat := [0, 0, 2, 6, 0, 16, 48, 126, 255, 511]
theorem edit_grown.tab4 : rtab .any (opsOf Try.f37 4) = edit_grown.T4 := by kernel_rfl
theorem edit_grown.bits4 : waitsOk edit_grown.T4.2 edit_grown.B4 = true := by kernel_rfl
set_option maxHeartbeats 8000000 in
set_option maxRecDepth 100000 in
theorem edit_grown.calls (k : Nat) (a0 : Int) (A1 : Option Addr) (c1 : Nat) (l1 : List (S41)) (r : Int) (w : World) (hr1 : Kd.C k41 w A1 l1.length l1) (hc1 : l1.length ≤ c1) (h : edit_grown.f k a0 l1 = some r) :
  Calls Try.prog 37 #[.int .i64 a0, .slice A1 l1.length c1] w fun e w' => e = .returned (.int .i64 r) ∧ Below w.heap.size w w' := by
 have hu41 := Try.underlying41
 have hu39 := Try.underlying39
 have HR1 := Aside0.mk hr1
 have HC1 := Aside0.mk hc1
 clear hr1 hc1
 have HB := Aside0.mk (Below.refl w.heap.size w)
 have H : (edit_grown.l0 k a0 l1 (l1.length : Int) 0) = some r := h
 clear h
 have H' := Aside0.mk H
 clear H
 go_enter Try.func37, Try.ntmps37
 go_wp2
 go_loopg [0, 9] k (fun kq v0 v9 w' => ∃ (x0_1 : Int) (x9_1 : Int), v0 = .int .i64 x0_1 ∧ v9 = .int .i64 x9_1 ∧ Aside0 (edit_grown.l0 kq x0_1 l1 (l1.length : Int) x9_1 = some r) ∧ Aside0 (kq ≤ k) ∧ Aside0 (Below w.heap.size w w'))
 case atStart => exact ⟨(a0), (0), (by first | rfl | (simp; done) | (simp [*]; done)), (by first | rfl | (simp; done) | (simp [*]; done)), H', ⟨Nat.le_refl _⟩, ⟨pxb HB⟩⟩
 case round =>
  clear H'
  try clear c1
  try clear p2
  obtain ⟨x0_1, x9_1, rfl, rfl, HA, HK1, HB⟩ := hrel
  cases gk with
  | zero => exact absurd HA.out (by simp [edit_grown.l0])
  | succ k1 =>
   have H := HA.out
   clear HA
   simp only [edit_grown.l0] at H
   by_cases c3 : x9_1 < (l1.length : Int)
   ·rw [if_pos c3] at H
    have c3b0 : decide (x9_1 < (l1.length : Int)) = true := decide_eq_true c3
    clear c3
    by_cases c4 : 0 ≤ x9_1
    ·rw [if_pos c4] at H
     have c4b0 : decide (0 ≤ x9_1) = true := decide_eq_true c4
     clear c4
     by_cases c5 : x9_1 < (l1.length : Int)
     ·rw [if_pos c5] at H
      have c5b0 : decide (x9_1 < (l1.length : Int)) = true := decide_eq_true c5
      clear c5
      replace H := Option.bind_eq_some_iff.mp H
      obtain ⟨t381, A60, H⟩ := H
      replace H : (edit_grown.l0 k1 (wrap64 (x0_1 + (wrap64 ((((rd_T41 l1 x9_1).f1).size : Int) - t381)))) l1 (l1.length : Int) (wrap64 (x9_1 + 1))) = some r := H
      have A6 := Aside0.mk A60
      clear A60
      have H' := Aside0.mk H
      clear H
      have p379 : 0 ≤ (x9_1 : Int) := of_decide_eq_true (by first | (with_reducible assumption) | assumption)
      have q379 : x9_1 < (l1.length : Int) := of_decide_eq_true (by first | (with_reducible assumption) | assumption)
      obtain ⟨ad379, e379, hx379_0, hx379_1, hx379_2⟩ := at_T41 HR1.out x9_1 p379 q379
      cases e379
      replace hx379_0 := (HB.out.cell (World.block_lt_of_cell? w _ hx379_0)).trans hx379_0
      replace hx379_1 := (HB.out.cell (World.block_lt_of_cell? w _ hx379_1)).trans hx379_1
      replace hx379_2 := (HB.out.cell (World.block_lt_of_cell? w _ hx379_2)).trans hx379_2
      replace p379 := eq_true p379
      replace q379 := eq_true q379
      try go_wp2_with (first | ((with_reducible refine gate_dst (N := 6) rfl ?_); refine box_event ?hg (N := 6) ?hd (cs := #[.int .i64 0, .int .i64 0, .string (⟨#[]⟩ : ByteArray)]) (t := 41) ?hr ?_; (case hd => rfl); (case hg => rfl); (case hr => first | (go_simp; done) | (go_simp; rfl)); intro gb380 hg w7 hbox hb; have n0_ := pxs HB hb; have n1_ := Aside0.mk (hbox); have n2_ := Aside0.mk ((by rw [hg]; exact (below_size (pxb HB)) : w.heap.size ≤ gb380)); have n3_ := Aside0.mk ((by rw [hg]; exact (below_size (pxb HB)) : w.heap.size ≤ gb380)); clear HB; have HB := n0_; have BK380 := n1_; have GW380 := n2_; have GE380 := n3_; clear n0_ n1_ n2_ n3_; clear hb hbox hg; have hcz8_0 : w7.cell? ⟨gb380, 0, none⟩ = some (.int .i64 0) := (blk_cell BK380.out 0).trans rfl; have hcz8_1 : w7.cell? ⟨gb380, 1, none⟩ = some (.int .i64 0) := (blk_cell BK380.out 1).trans rfl; have hcz8_2 : w7.cell? ⟨gb380, 2, none⟩ = some (.string (⟨#[]⟩ : ByteArray)) := (blk_cell BK380.out 2).trans rfl; have hfz8_0 := blk_frozen BK380.out 0; have hfz8_1 := blk_frozen BK380.out 1; have hfz8_2 := blk_frozen BK380.out 2))
      have n0_ : Aside0 ((((w7.setCell ⟨gb380, 0, none⟩ (.int .i64 ((rd_T41 l1 x9_1).f0.f0))).setCell ⟨gb380, 1, none⟩ (.int .i64 ((rd_T41 l1 x9_1).f0.f1))).setCell ⟨gb380, 2, none⟩ (.string ((rd_T41 l1 x9_1).f1))).heap[gb380]? = some (.cells #[.int .i64 ((rd_T41 l1 x9_1).f0.f0), .int .i64 ((rd_T41 l1 x9_1).f0.f1), .string ((rd_T41 l1 x9_1).f1)] 41 (0, 0))) := ⟨by (with_reducible repeat (first | refine blk_drewN ?_ _ | refine blk_drew ?_ | refine blk_alloc ?_ _)); refine blk_put (cs := #[.int .i64 ((rd_T41 l1 x9_1).f0.f0), .int .i64 ((rd_T41 l1 x9_1).f0.f1), .string (⟨#[]⟩ : ByteArray)]) ?_ 2 _ rfl; (with_reducible repeat (first | refine blk_drewN ?_ _ | refine blk_drew ?_ | refine blk_alloc ?_ _)); refine blk_put (cs := #[.int .i64 ((rd_T41 l1 x9_1).f0.f0), .int .i64 0, .string (⟨#[]⟩ : ByteArray)]) ?_ 1 _ rfl; (with_reducible repeat (first | refine blk_drewN ?_ _ | refine blk_drew ?_ | refine blk_alloc ?_ _)); refine blk_put (cs := #[.int .i64 0, .int .i64 0, .string (⟨#[]⟩ : ByteArray)]) ?_ 0 _ rfl; (with_reducible repeat (first | refine blk_drewN ?_ _ | refine blk_drew ?_ | refine blk_alloc ?_ _)); exact BK380.out⟩
      have n1_ : Aside0 (Below w.heap.size w (((w7.setCell ⟨gb380, 0, none⟩ (.int .i64 ((rd_T41 l1 x9_1).f0.f0))).setCell ⟨gb380, 1, none⟩ (.int .i64 ((rd_T41 l1 x9_1).f0.f1))).setCell ⟨gb380, 2, none⟩ (.string ((rd_T41 l1 x9_1).f1)))) := ⟨pxb HB⟩
      (try clear BK380)
      (try clear HB)
      generalize (((w7.setCell ⟨gb380, 0, none⟩ (.int .i64 ((rd_T41 l1 x9_1).f0.f0))).setCell ⟨gb380, 1, none⟩ (.int .i64 ((rd_T41 l1 x9_1).f0.f1))).setCell ⟨gb380, 2, none⟩ (.string ((rd_T41 l1 x9_1).f1))) = w9 at n0_ n1_ ⊢
      have BK380 := n0_
      have HB := n1_
      clear n0_ n1_
      have n0_ := Aside0.mk (blk_drew BK380.out)
      have n1_ := Aside0.mk (below_drew1 HB.out)
      clear BK380
      clear HB
      have BK380 := n0_
      have HB := n1_
      clear n0_ n1_
      refine start_ (n := 10) (S := fun w' => w'.cell? ⟨gb380, 0, none⟩ = some (.int .i64 ((rd_T41 l1 x9_1).f0.f0)) ∧ w'.cell? ⟨gb380, 1, none⟩ = some (.int .i64 ((rd_T41 l1 x9_1).f0.f1)) ∧ w'.cell? ⟨gb380, 2, none⟩ = some (.string ((rd_T41 l1 x9_1).f1))) (ds := []) #[false, false, false, false, false, false, false, false, false, false] (by kernel_rfl) rfl rfl ⟨(blk_cell BK380.out 0).trans rfl, (blk_cell BK380.out 1).trans rfl, (blk_cell BK380.out 2).trans rfl⟩ (fun hHeld => ?_); refine with_tabW edit_grown.tab4 edit_grown.bits4 (fun HT_ HW_ => ?_)
      generalize w9.drew = w10 at BK380 HB hHeld ⊢
      refine pS 0 13 HT_ ?_
      refine pS 1 14 HT_ ?_
      refine pS 4 17 HT_ ?_
      refine tS 2 15 HT_ HW_ hHeld ?_
      refine pS 3 16 HT_ ?_
      refine tS 5 18 HT_ HW_ hHeld ?_
      refine oS 6 HT_ (fun K hK => ?_)
      refine goes_ Try.func29 (by kernel_rfl) rfl #[.agg #[.int .i64 ((rd_T41 l1 x9_1).f0.f0), .int .i64 ((rd_T41 l1 x9_1).f0.f1)]] (by rfl) rfl rfl (by (try simp only [List.map_toArray, List.map_cons, List.map_nil]); first | done | rfl | (simp only [List.length_drop, List.length_take]; rfl)) ?_
      with_reducible refine (span_Len.calls k1 ((rd_T41 l1 x9_1).f0.f0) ((rd_T41 l1 x9_1).f0.f1) t381 _ A6.out).mono ?_
      rintro e w11 ⟨rfl, hb⟩
      refine ⟨_, rfl, ?_⟩
      have n0_ := pxk BK380 hb
      have n1_ := pxs HB hb
      clear BK380
      clear HB
      have BK380 := n0_
      have HB := n1_
      clear n0_ n1_
      (try clear hb)
      (try clear hb2)
      (try clear hk)
      (try clear hi)
      refine hK.out _ _ ⟨(blk_cell BK380.out 0).trans rfl, (blk_cell BK380.out 1).trans rfl, (blk_cell BK380.out 2).trans rfl⟩ (fun hHeld => ?_)
      clear hK K
      refine nS 19 ?_
      refine pS 7 20 HT_ ?_
      refine pS 8 21 HT_ ?_
      refine pS 9 0 HT_ ?_
      refine done_ (done_of HT_.out (by kernel_rfl)) ?_
      try go_wp2
      go_roundg k1
      case measure => have := HK1.out; omega
      case rel => exact ⟨(wrap64 (x0_1 + (wrap64 ((((rd_T41 l1 x9_1).f1).size : Int) - t381)))), (wrap64 (x9_1 + 1)), (by first | rfl | (simp; done) | (simp [*]; done)), (by first | rfl | (simp; done) | (simp [*]; done)), H', ⟨by have := HK1.out; omega⟩, ⟨pxb HB⟩⟩
     ·rw [if_neg c5] at H
      exact absurd H (by simp)
    ·rw [if_neg c4] at H
     exact absurd H (by simp)
   ·rw [if_neg c3] at H
    have c3b0 : decide (x9_1 < (l1.length : Int)) = false := decide_eq_false c3
    clear c3
    obtain rfl := Option.some.inj H
    go_wp2
    go_ret
    exact ⟨by first | rfl | (simp [errW_none, errW_some] <;> rfl) | (simp [*, errW_none, errW_some] <;> rfl), pxb HB⟩

end Go.Proofs.Ytoljmjhmieaggaa.X
