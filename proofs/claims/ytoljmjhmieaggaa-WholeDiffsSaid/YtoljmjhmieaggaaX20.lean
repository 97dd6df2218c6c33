/- What the program's functions answer, as Lean functions, and that each call does just that; no condition. Written by a program (px.py) out of the translation. -/
import Derived.Test.YtoljmjhmieaggaaM2
import Derived.Test.YtoljmjhmieaggaaX22
import Derived.Test.YtoljmjhmieaggaaX32
import Derived.Test.YtoljmjhmieaggaaM5
namespace Go.Proofs.Ytoljmjhmieaggaa.X
open Go.RowKit Go.Proofs.YtoljmjhmieaggaaW.PrintWords Go.Proofs.YtoljmjhmieaggaaW.PrintLast Go.Proofs.YtoljmjhmieaggaaW.PrintMore
attribute [local go_sem] max2_int min2_int max_two min_two max_three min_three max_four min_four   -- for this text's walks alone
set_option linter.unusedVariables false
set_option linter.unusedSimpArgs false

/-! ### edit_Tidy: function 20 -/
mutual
def edit_Tidy.l0 : Nat → ByteArray → List (S41) → List (S41) → Int → Int → Option ((List (S41)) × Int)
 | 0, _, _, _, _, _ => none
 | k + 1, x0, x8, x21, x22, x23 => if x23 < x22 then (if 0 ≤ x23 then (if x23 < (x21.length : Int) then ((edit_trim.f k x0 ((rd_T41 x21 x23).f0.f0) ((rd_T41 x21 x23).f0.f1) ((rd_T41 x21 x23).f1)).bind fun bt388 => (if bt388.1 = bt388.2.1 then (edit_Tidy.j1 k x0 x8 x21 x22 x23 (bt388.2.2.toList == ([] : List UInt8)) bt388.1 bt388.2.1 bt388.2.2) else (edit_Tidy.j1 k x0 x8 x21 x22 x23 false bt388.1 bt388.2.1 bt388.2.2))) else (none)) else (none)) else (some (x8, 0))
def edit_Tidy.j1 : Nat → ByteArray → List (S41) → List (S41) → Int → Int → Bool → Int → Int → ByteArray → Option ((List (S41)) × Int)
 | 0, _, _, _, _, _, _, _, _, _ => none
 | k + 1, x0, x8, x21, x22, x23, x41, x388000, x388001, x388002 => if x41 = true then (edit_Tidy.l0 k x0 x8 x21 x22 (wrap64 (x23 + 1))) else (if (x8.length : Int) > 0 then (if 0 ≤ (wrap64 ((x8.length : Int) - 1)) then (if (wrap64 ((x8.length : Int) - 1)) < (x8.length : Int) then (edit_Tidy.j2 k x0 x8 (x8.length : Int) x21 x22 x23 (((rd_T41 x8 (wrap64 ((x8.length : Int) - 1))).f0.f1) == x388000) x388000 x388001 x388002) else (none)) else (none)) else (edit_Tidy.j2 k x0 x8 (x8.length : Int) x21 x22 x23 false x388000 x388001 x388002))
def edit_Tidy.j2 : Nat → ByteArray → List (S41) → Int → List (S41) → Int → Int → Bool → Int → Int → ByteArray → Option ((List (S41)) × Int)
 | 0, _, _, _, _, _, _, _, _, _, _ => none
 | k + 1, x0, x8, x11, x21, x22, x23, x58, x388000, x388001, x388002 => if x58 = true then (if 0 ≤ (wrap64 (x11 - 1)) then (if (wrap64 (x11 - 1)) < (x8.length : Int) then (if ((rd_T41 x8 (wrap64 (x11 - 1))).f1).size + x388002.size ≤ 9223372036854775807 then ((edit_trim.f k x0 ((rd_T41 x8 (wrap64 (x11 - 1))).f0.f0) x388001 (((rd_T41 x8 (wrap64 (x11 - 1))).f1) ++ x388002)).bind fun bt394 => (if (wrap64 (x11 - 1)) ≤ (x8.length : Int) then ((some (x8.take ((wrap64 (x11 - 1)) : Int).toNat : List (S41))).bind fun y397 => (if bt394.1 = bt394.2.1 then (if bt394.2.2.toList = ([] : List UInt8) then (edit_Tidy.l0 k x0 y397 x21 x22 (wrap64 (x23 + 1))) else (if y397.length < 4398046511104 then (edit_Tidy.l0 k x0 (y397 ++ [(⟨(⟨bt394.1, bt394.2.1⟩ : S39), bt394.2.2⟩ : S41)]) x21 x22 (wrap64 (x23 + 1))) else (none))) else (if y397.length < 4398046511104 then (edit_Tidy.l0 k x0 (y397 ++ [(⟨(⟨bt394.1, bt394.2.1⟩ : S39), bt394.2.2⟩ : S41)]) x21 x22 (wrap64 (x23 + 1))) else (none)))) else (none))) else (none)) else (none)) else (none)) else (if x8.length < 4398046511104 then (edit_Tidy.l0 k x0 (x8 ++ [(⟨(⟨x388000, x388001⟩ : S39), x388002⟩ : S41)]) x21 x22 (wrap64 (x23 + 1))) else (none))
end
def edit_Tidy.f (k : Nat) (a0 : ByteArray) (l1 : List (S41)) : Option ((List (S41)) × Int) := (edit_Apply.f k a0 l1).bind fun bt384 => (if bt384.2 = 0 then (edit_Tidy.l0 k a0 ([] : List (S41)) l1 (l1.length : Int) 0) else (some (([] : List (S41)), bt384.2)))
theorem edit_Tidy.mono_l : ∀ k, (∀ y0 y1 y2 y3 y4, LeO (edit_Tidy.l0 k y0 y1 y2 y3 y4) (edit_Tidy.l0 (k + 1) y0 y1 y2 y3 y4)) ∧ (∀ y0 y1 y2 y3 y4 y5 y6 y7 y8, LeO (edit_Tidy.j1 k y0 y1 y2 y3 y4 y5 y6 y7 y8) (edit_Tidy.j1 (k + 1) y0 y1 y2 y3 y4 y5 y6 y7 y8)) ∧ (∀ y0 y1 y2 y3 y4 y5 y6 y7 y8 y9, LeO (edit_Tidy.j2 k y0 y1 y2 y3 y4 y5 y6 y7 y8 y9) (edit_Tidy.j2 (k + 1) y0 y1 y2 y3 y4 y5 y6 y7 y8 y9))
 | 0 => ⟨fun _ _ _ _ _ r h => by simp [edit_Tidy.l0] at h, fun _ _ _ _ _ _ _ _ _ r h => by simp [edit_Tidy.j1] at h, fun _ _ _ _ _ _ _ _ _ _ r h => by simp [edit_Tidy.j2] at h⟩
 | k + 1 => by
  obtain ⟨ih0, ih1, ih2⟩ := edit_Tidy.mono_l k
  refine ⟨?_, ?_, ?_⟩
  ·intro y0 y1 y2 y3 y4
   unfold edit_Tidy.l0
   repeat' first
   | (with_reducible exact ih0 _ _ _ _ _)
   | (with_reducible exact ih1 _ _ _ _ _ _ _ _ _)
   | (with_reducible exact ih2 _ _ _ _ _ _ _ _ _ _)
   | (with_reducible exact edit_Apply.mono _ _ _)
   | (with_reducible exact edit_trim.mono _ _ _ _ _)
   | (with_reducible exact LeO.refl _)
   | (with_reducible exact LeO.none _)
   | (with_reducible refine LeO.ite ?_ ?_)
   | (with_reducible refine LeO.bind ?_ (fun _ => ?_))
   | exact ih0 _ _ _ _ _
   | exact ih1 _ _ _ _ _ _ _ _ _
   | exact ih2 _ _ _ _ _ _ _ _ _ _
   | exact edit_Apply.mono _ _ _
   | exact edit_trim.mono _ _ _ _ _
   | exact LeO.none _
   | refine LeO.ite ?_ ?_
   | refine LeO.bind ?_ (fun _ => ?_)
  ·intro y0 y1 y2 y3 y4 y5 y6 y7 y8
   unfold edit_Tidy.j1
   repeat' first
   | (with_reducible exact ih0 _ _ _ _ _)
   | (with_reducible exact ih1 _ _ _ _ _ _ _ _ _)
   | (with_reducible exact ih2 _ _ _ _ _ _ _ _ _ _)
   | (with_reducible exact edit_Apply.mono _ _ _)
   | (with_reducible exact edit_trim.mono _ _ _ _ _)
   | (with_reducible exact LeO.refl _)
   | (with_reducible exact LeO.none _)
   | (with_reducible refine LeO.ite ?_ ?_)
   | (with_reducible refine LeO.bind ?_ (fun _ => ?_))
   | exact ih0 _ _ _ _ _
   | exact ih1 _ _ _ _ _ _ _ _ _
   | exact ih2 _ _ _ _ _ _ _ _ _ _
   | exact edit_Apply.mono _ _ _
   | exact edit_trim.mono _ _ _ _ _
   | exact LeO.none _
   | refine LeO.ite ?_ ?_
   | refine LeO.bind ?_ (fun _ => ?_)
  ·intro y0 y1 y2 y3 y4 y5 y6 y7 y8 y9
   unfold edit_Tidy.j2
   repeat' first
   | (with_reducible exact ih0 _ _ _ _ _)
   | (with_reducible exact ih1 _ _ _ _ _ _ _ _ _)
   | (with_reducible exact ih2 _ _ _ _ _ _ _ _ _ _)
   | (with_reducible exact edit_Apply.mono _ _ _)
   | (with_reducible exact edit_trim.mono _ _ _ _ _)
   | (with_reducible exact LeO.refl _)
   | (with_reducible exact LeO.none _)
   | (with_reducible refine LeO.ite ?_ ?_)
   | (with_reducible refine LeO.bind ?_ (fun _ => ?_))
   | exact ih0 _ _ _ _ _
   | exact ih1 _ _ _ _ _ _ _ _ _
   | exact ih2 _ _ _ _ _ _ _ _ _ _
   | exact edit_Apply.mono _ _ _
   | exact edit_trim.mono _ _ _ _ _
   | exact LeO.none _
   | refine LeO.ite ?_ ?_
   | refine LeO.bind ?_ (fun _ => ?_)
theorem edit_Tidy.mono : ∀ a0 a1 k, LeO (edit_Tidy.f k a0 a1) (edit_Tidy.f (k + 1) a0 a1) := by
 intro a0 a1 k
 obtain ⟨ih0, ih1, ih2⟩ := edit_Tidy.mono_l k
 unfold edit_Tidy.f
 repeat' first
   | (with_reducible exact ih0 _ _ _ _ _)
   | (with_reducible exact ih1 _ _ _ _ _ _ _ _ _)
   | (with_reducible exact ih2 _ _ _ _ _ _ _ _ _ _)
   | (with_reducible exact edit_Apply.mono _ _ _)
   | (with_reducible exact edit_trim.mono _ _ _ _ _)
   | (with_reducible exact LeO.refl _)
   | (with_reducible exact LeO.none _)
   | (with_reducible refine LeO.ite ?_ ?_)
   | (with_reducible refine LeO.bind ?_ (fun _ => ?_))
   | exact ih0 _ _ _ _ _
   | exact ih1 _ _ _ _ _ _ _ _ _
   | exact ih2 _ _ _ _ _ _ _ _ _ _
   | exact edit_Apply.mono _ _ _
   | exact edit_trim.mono _ _ _ _ _
   | exact LeO.none _
   | refine LeO.ite ?_ ?_
   | refine LeO.bind ?_ (fun _ => ?_)
def edit_Tidy.T11 : Bool × List (List Nat × List Nat) := (true, [([], []), ([0], [0]), ([1], [1]), ([2], [2]), ([2], [2]), ([4, 2], [2, 4]), ([3, 5, 2], [2, 3, 5]), ([6, 2], [2, 6]), ([7, 2], [2, 7]), ([8, 2], [2, 8]), ([2], [2]), ([10, 2], [2, 10]), ([11, 2], [2, 11]), ([9, 12, 2], [2, 9, 12]), ([2, 13], [2, 13])])
def edit_Tidy.B11 : List Nat := [0, 1, 3, 7, 7, 23, 63, 127, 255, 511, 7, 1031, 3079, 8191, 16383]
theorem edit_Tidy.tab11 : rtab .any (opsOf Try.f20 11) = edit_Tidy.T11 := by kernel_rfl
theorem edit_Tidy.bits11 : waitsOk edit_Tidy.T11.2 edit_Tidy.B11 = true := by kernel_rfl
def edit_Tidy.T12 : Bool × List (List Nat × List Nat) := (true, [([], []), ([], []), ([], []), ([2], [2]), ([1, 3], [1, 3]), ([4], [4]), ([5], [5]), ([6], [6]), ([], []), ([8], [8]), ([9], [9]), ([7, 10], [7, 10]), ([], []), ([], []), ([13], [13]), ([12, 14], [12, 14]), ([15], [15]), ([16], [16]), ([], []), ([18], [18]), ([17, 19], [17, 19]), ([11, 20], [11, 20]), ([0, 21], [0, 21]), ([22, 22, 0, 1, 2, 3, 4, 5, 6, 7, 8, 9, 10, 11, 12, 13, 14, 15, 16, 17, 18, 19, 20, 21, 22], [22])])
def edit_Tidy.B12 : List Nat := [0, 0, 0, 4, 14, 30, 62, 126, 0, 256, 768, 2046, 0, 0, 8192, 28672, 61440, 126976, 0, 262144, 1044480, 2097150, 4194303, 8388607]
theorem edit_Tidy.tab12 : rtab .any (opsOf Try.f20 12) = edit_Tidy.T12 := by kernel_rfl
theorem edit_Tidy.bits12 : waitsOk edit_Tidy.T12.2 edit_Tidy.B12 = true := by kernel_rfl
set_option maxHeartbeats 8000000 in
set_option maxRecDepth 100000 in
theorem edit_Tidy.calls (k : Nat) (a0 : ByteArray) (A1 : Option Addr) (c1 : Nat) (l1 : List (S41)) (r1 : List (S41)) (r2 : Int) (w : World) (hr1 : Kd.C k41 w A1 l1.length l1) (hc1 : l1.length ≤ c1) (h : edit_Tidy.f k a0 l1 = some (r1, r2)) :
  Calls Try.prog 20 #[.string a0, .slice A1 l1.length c1] w fun e w' => ∃ v0_ : Value, e = .returned (.tuple #[v0_, .int .i64 r2]) ∧ Kd.R k41 41 w' w.heap.size (fun _ => True) v0_ r1 ∧ Below w.heap.size w w' := by
 have hu41 := Try.underlying41
 have hu39 := Try.underlying39
 have HR1 := Aside0.mk hr1
 have HC1 := Aside0.mk hc1
 clear hr1 hc1
 have HB := Aside0.mk (Below.refl w.heap.size w)
 have H : ((edit_Apply.f k a0 l1).bind fun bt384 => (if bt384.2 = 0 then (edit_Tidy.l0 k a0 ([] : List (S41)) l1 (l1.length : Int) 0) else (some (([] : List (S41)), bt384.2)))) = some (r1, r2) := h
 clear h
 replace H := Option.bind_eq_some_iff.mp H
 obtain ⟨⟨t384, t385⟩, A30, H⟩ := H
 replace H : (if t385 = 0 then (edit_Tidy.l0 k a0 ([] : List (S41)) l1 (l1.length : Int) 0) else (some (([] : List (S41)), t385))) = some (r1, r2) := H
 have A3 := Aside0.mk A30
 clear A30
 by_cases c4 : t385 = 0
 ·rw [if_pos c4] at H
  have c4b0 : (t385 == 0) = true := beq_iff_eq.mpr c4
  have c4b1 : (t385 != 0) = false := bne_eq_false_iff_eq.mpr c4
  clear c4
  have H' := Aside0.mk H
  clear H
  go_enter Try.func20, Try.ntmps20
  go_wp2_with (first | ((with_reducible refine gate_callee (f := 22) rfl ?_); refine goesL_ (some 15) rfl rfl Try.func22 (by kernel_rfl) rfl #[.string a0, .slice A1 l1.length c1] rfl (by (try simp only [List.map_toArray, List.map_cons, List.map_nil]); first | done | rfl | (simp only [List.length_drop, List.length_take]; rfl)) ?_; (with_reducible refine (edit_Apply.calls k a0 _ _ l1 t384 t385 _ ?side1 ?side2 A3.out).mono ?_); (case side1 => repeat (first | exact HR1.out | (with_reducible refine Kd.C_alloc ?_ _) | (with_reducible refine Kd.C_drewN ?_ _) | (with_reducible refine Kd.C_drew ?_))); (case side2 => exact HC1.out); rintro e w5 ⟨rfl, hb⟩; refine ⟨_, rfl, ?_⟩; replace HB := pxs HB hb; (try clear hb); (try clear hb2); (try clear hk); (try clear hi)))
  go_loopg [8, 23] k (fun kq v8 v23 w' => ∃ (x8_1 : List (S41)) (x23_1 : Int), v23 = .int .i64 x23_1 ∧ Aside0 (edit_Tidy.l0 kq a0 x8_1 l1 (l1.length : Int) x23_1 = some (r1, r2)) ∧ Aside0 (kq ≤ k) ∧ Aside0 (Kd.R k41 41 w' w.heap.size (fun _ => True) v8 x8_1) ∧ Aside0 (Below w.heap.size w w'))
  case atStart => exact ⟨(([] : List (S41))), (0), (by first | rfl | (simp; done) | (simp [*]; done)), H', ⟨Nat.le_refl _⟩, ⟨by first | exact Kd.R_nil _ _ _ _ _ | exact Kd.N_nil _ _ _ _ _ | exact Kd.V_nil _ _ _ _ _ | exact Kd.Q_nil _ _ _ _ _ | exact Kd.S_nil _ _ _ _ _⟩, ⟨pxb HB⟩⟩
  case round =>
   clear H'
   (try clear c1); (try clear c2); (try clear p2); (try clear c4); (try clear c4b0); (try clear c4b1)
   obtain ⟨x8_1, x23_1, rfl, HA, HK1, HO_8, HB⟩ := hrel
   cases gk with
   | zero => exact absurd HA.out (by simp [edit_Tidy.l0])
   | succ k1 =>
    have H := HA.out
    clear HA
    simp only [edit_Tidy.l0] at H
    by_cases c6 : x23_1 < (l1.length : Int)
    ·rw [if_pos c6] at H
     have c6b0 : decide (x23_1 < (l1.length : Int)) = true := decide_eq_true c6
     clear c6
     by_cases c7 : 0 ≤ x23_1
     ·rw [if_pos c7] at H
      have c7b0 : decide (0 ≤ x23_1) = true := decide_eq_true c7
      clear c7
      by_cases c8 : x23_1 < (l1.length : Int)
      ·rw [if_pos c8] at H
       have c8b0 : decide (x23_1 < (l1.length : Int)) = true := decide_eq_true c8
       clear c8
       replace H := Option.bind_eq_some_iff.mp H
       obtain ⟨⟨t388, t389, t390⟩, A90, H⟩ := H
       replace H : (if t388 = t389 then (edit_Tidy.j1 k1 a0 x8_1 l1 (l1.length : Int) x23_1 (t390.toList == ([] : List UInt8)) t388 t389 t390) else (edit_Tidy.j1 k1 a0 x8_1 l1 (l1.length : Int) x23_1 false t388 t389 t390)) = some (r1, r2) := H
       have A9 := Aside0.mk A90
       clear A90
       have HC10 := Aside0.mk H
       clear H
       have p386 : 0 ≤ (x23_1 : Int) := pxd
       have q386 : x23_1 < (l1.length : Int) := pxd
       obtain ⟨ad386, e386, hx386_0, hx386_1, hx386_2⟩ := at_T41 HR1.out x23_1 p386 q386
       cases e386
       replace hx386_0 := (HB.out.cell (World.block_lt_of_cell? w _ hx386_0)).trans hx386_0
       replace hx386_1 := (HB.out.cell (World.block_lt_of_cell? w _ hx386_1)).trans hx386_1
       replace hx386_2 := (HB.out.cell (World.block_lt_of_cell? w _ hx386_2)).trans hx386_2
       replace p386 := eq_true p386
       replace q386 := eq_true q386
       go_upto_region 9 with (first | ((with_reducible refine gate_dst (N := 10) rfl ?_); refine box_event ?hg (N := 10) ?hd (cs := #[.int .i64 0, .int .i64 0, .string (⟨#[]⟩ : ByteArray)]) (t := 41) ?hr ?_; (case hd => rfl); (case hg => rfl); (case hr => first | (go_simp; done) | (go_simp; rfl)); intro gb387 hg w11 hbox hb; have BK387 := Aside0.mk (hbox); have GW387 := pxw HB hg; have GE387 := pxw HB hg; replace HO_8 := Aside0.mk (Kd.R_below (Kd.R_elderB (pxr HO_8) gb387 (Nat.le_of_eq hg.symm)) hb); replace HB := pxs HB hb; clear hb hbox hg; obtain ⟨hcz12_0, hcz12_1, hcz12_2, hfz12_0, hfz12_1, hfz12_2⟩ := pxf3 BK387) | ((with_reducible refine gate_callee (f := 32) rfl ?_); refine goesL_ (some 29) rfl rfl Try.func32 (by kernel_rfl) rfl #[.string a0, .agg #[.int .i64 ((rd_T41 l1 x23_1).f0.f0), .int .i64 ((rd_T41 l1 x23_1).f0.f1), .string ((rd_T41 l1 x23_1).f1)]] rfl (by (try simp only [List.map_toArray, List.map_cons, List.map_nil]); first | done | rfl | (simp only [List.length_drop, List.length_take]; rfl)) ?_; (with_reducible refine (edit_trim.calls k1 a0 ((rd_T41 l1 x23_1).f0.f0) ((rd_T41 l1 x23_1).f0.f1) ((rd_T41 l1 x23_1).f1) t388 t389 t390 _ A9.out).mono ?_); rintro e w13 ⟨rfl, hb⟩; refine ⟨_, rfl, ?_⟩; replace HO_8 := Aside0.mk (Kd.R_below (by (with_reducible repeat (first | apply Kd.R_alloc | apply Kd.R_drewN | apply Kd.R_drew)); exact (Kd.R_mono (Kd.R_far (p := ⟨gb387, 2, none⟩) (Kd.R_far (p := ⟨gb387, 1, none⟩) (Kd.R_far (p := ⟨gb387, 0, none⟩) (Kd.R_mono HO_8.out (fun k_ hk => (⟨hk, hk.2⟩ : _ ∧ k_ ≠ gb387))) (fun _ hk => hk.2) (.int .i64 ((rd_T41 l1 x23_1).f0.f0))) (fun _ hk => hk.2) (.int .i64 ((rd_T41 l1 x23_1).f0.f1))) (fun _ hk => hk.2) (.string ((rd_T41 l1 x23_1).f1))) (fun _ h_ => h_.1))) hb); replace BK387 := Aside0.mk (blk_below (g := gb387) (o := .cells #[.int .i64 ((rd_T41 l1 x23_1).f0.f0), .int .i64 ((rd_T41 l1 x23_1).f0.f1), .string ((rd_T41 l1 x23_1).f1)] 41 (0, 0)) (pxp BK387) hb); replace HB := pxs HB hb; (try clear hb); (try clear hb2); (try clear hk); (try clear hi); obtain ⟨hcz14_0, hcz14_1, hcz14_2, hfz14_0, hfz14_1, hfz14_2⟩ := pxf3 BK387))
       (try simp only [Act.put, List.setIfInBounds_toArray, List.set_cons_zero, List.set_cons_succ])
       go_cut [41] (fun v41 wc => ∃ (kq : Nat) (x41_9 : Bool), v41 = .bool x41_9 ∧ Aside0 (edit_Tidy.j1 kq a0 x8_1 l1 (l1.length : Int) x23_1 x41_9 t388 t389 t390 = some (r1, r2)) ∧ Aside0 (kq ≤ k1) ∧ Aside0 (Kd.R k41 41 wc w.heap.size (fun k_ => k_ ≠ gb387) u8 x8_1) ∧ Aside0 (wc.heap[gb387]? = some (.cells #[.int .i64 t388, .int .i64 t389, .string t390] 41 (0, 0))) ∧ Aside0 (Below w.heap.size w wc))
       case first =>
        have H := HC10.out
        clear HC10
        by_cases c15 : t388 = t389
        ·rw [if_pos c15] at H
         have c15b0 : (t388 == t389) = true := beq_iff_eq.mpr c15
         have c15b1 : (t388 != t389) = false := bne_eq_false_iff_eq.mpr c15
         clear c15
         (first | rw [c15b0] | (simp only [i64_w, i32_w]; rw [c15b0]) | skip)
         have H' := Aside0.mk H
         clear H
         have hcz16_0 : w13.cell? ⟨gb387, 0, none⟩ = some (.int .i64 ((rd_T41 l1 x23_1).f0.f0)) := (blk_cell BK387.out 0).trans rfl
         have hcz16_1 : w13.cell? ⟨gb387, 1, none⟩ = some (.int .i64 ((rd_T41 l1 x23_1).f0.f1)) := (blk_cell BK387.out 1).trans rfl
         have hcz16_2 : w13.cell? ⟨gb387, 2, none⟩ = some (.string ((rd_T41 l1 x23_1).f1)) := (blk_cell BK387.out 2).trans rfl
         have hfz16_0 := blk_frozen BK387.out 0
         have hfz16_1 := blk_frozen BK387.out 1
         have hfz16_2 := blk_frozen BK387.out 2
         go_wp2
         go_meet
         case rel => exact ⟨_, ((t390.toList == ([] : List UInt8))), (by first | rfl | (simp; done) | (simp [*]; done)), H', ⟨by have := HK1.out; first | omega | exact Nat.le_refl _⟩, ⟨by (with_reducible repeat (first | apply Kd.R_alloc | apply Kd.R_drewN | apply Kd.R_drew)); exact Kd.R_mono (Kd.R_far (p := ⟨gb387, 2, none⟩) (Kd.R_far (p := ⟨gb387, 1, none⟩) (Kd.R_far (p := ⟨gb387, 0, none⟩) (Kd.R_mono HO_8.out (fun k_ hk => (⟨hk, hk.2⟩ : _ ∧ k_ ≠ gb387))) (fun _ hk => hk.2) (.int .i64 t388)) (fun _ hk => hk.2) (.int .i64 t389)) (fun _ hk => hk.2) (.string t390)) (fun _ hk => hk.1.2)⟩, ⟨pxp BK387⟩, ⟨pxb HB⟩⟩
        ·rw [if_neg c15] at H
         have c15b0 : (t388 == t389) = false := beq_eq_false_iff_ne.mpr c15
         have c15b1 : (t388 != t389) = true := bne_iff_ne.mpr c15
         (first | rw [c15b0] | (simp only [i64_w, i32_w]; rw [c15b0]) | skip)
         have H' := Aside0.mk H
         clear H
         have hcz17_0 : w13.cell? ⟨gb387, 0, none⟩ = some (.int .i64 ((rd_T41 l1 x23_1).f0.f0)) := (blk_cell BK387.out 0).trans rfl
         have hcz17_1 : w13.cell? ⟨gb387, 1, none⟩ = some (.int .i64 ((rd_T41 l1 x23_1).f0.f1)) := (blk_cell BK387.out 1).trans rfl
         have hcz17_2 : w13.cell? ⟨gb387, 2, none⟩ = some (.string ((rd_T41 l1 x23_1).f1)) := (blk_cell BK387.out 2).trans rfl
         have hfz17_0 := blk_frozen BK387.out 0
         have hfz17_1 := blk_frozen BK387.out 1
         have hfz17_2 := blk_frozen BK387.out 2
         go_wp2
         go_meet
         case rel => exact ⟨_, (false), (by first | rfl | (simp; done) | (simp [*]; done)), H', ⟨by have := HK1.out; first | omega | exact Nat.le_refl _⟩, ⟨by (with_reducible repeat (first | apply Kd.R_alloc | apply Kd.R_drewN | apply Kd.R_drew)); exact Kd.R_mono (Kd.R_far (p := ⟨gb387, 2, none⟩) (Kd.R_far (p := ⟨gb387, 1, none⟩) (Kd.R_far (p := ⟨gb387, 0, none⟩) (Kd.R_mono HO_8.out (fun k_ hk => (⟨hk, hk.2⟩ : _ ∧ k_ ≠ gb387))) (fun _ hk => hk.2) (.int .i64 t388)) (fun _ hk => hk.2) (.int .i64 t389)) (fun _ hk => hk.2) (.string t390)) (fun _ hk => hk.1.2)⟩, ⟨pxp BK387⟩, ⟨pxb HB⟩⟩
       case rest => as_aux_lemma =>
        clear HC10
        (try clear c1); (try clear c2); (try clear p2); (try clear c3); (try clear p3); (try clear q3); (try clear hx3); (try clear c4); (try clear c4b0); (try clear c4b1); (try clear c6); (try clear c6b0); (try clear c7); (try clear c7b0); (try clear c8); (try clear c8b0); (try clear c15); (try clear c15b0); (try clear c15b1); (try clear hcz12_0 hcz12_1 hcz12_2 hfz12_0 hfz12_1 hfz12_2); (try clear hcz14_0 hcz14_1 hcz14_2 hfz14_0 hfz14_1 hfz14_2); (try clear hcz16_0 hcz16_1 hcz16_2 hfz16_0 hfz16_1 hfz16_2); (try clear hcz17_0 hcz17_1 hcz17_2 hfz17_0 hfz17_1 hfz17_2); (try clear hx386_0); (try clear hx386_1); (try clear hx386_2); (try clear p386); (try clear q386)
        obtain ⟨kq, x41_9, rfl, HA, HJ9, HO_8, BK387, HB⟩ := hcut
        cases kq with
        | zero => exact absurd HA.out (by simp [edit_Tidy.j1])
        | succ kj9 =>
         have H := HA.out
         clear HA
         simp only [edit_Tidy.j1] at H
         by_cases c18 : x41_9 = true
         ·subst c18
          have H1 : (edit_Tidy.l0 kj9 a0 x8_1 l1 (l1.length : Int) (wrap64 (x23_1 + 1))) = some (r1, r2) := by rw [if_pos rfl] at H; exact H
          clear H
          have H := H1
          clear H1
          have H' := Aside0.mk H
          clear H
          go_wp2
          go_roundg kj9
          case measure => have := HK1.out; have := HJ9.out; omega
          case rel => exact ⟨(x8_1), (wrap64 (x23_1 + 1)), (by first | rfl | (simp; done) | (simp [*]; done)), H', ⟨by have := HK1.out; have := HJ9.out; omega⟩, ⟨by (with_reducible repeat (first | apply Kd.R_alloc | apply Kd.R_drewN | apply Kd.R_drew)); exact Kd.R_mono HO_8.out (fun _ hk => trivial)⟩, ⟨pxb HB⟩⟩
         ·replace c18 := Bool.eq_false_iff.mpr c18
          subst c18
          have H1 : (if (x8_1.length : Int) > 0 then (if 0 ≤ (wrap64 ((x8_1.length : Int) - 1)) then (if (wrap64 ((x8_1.length : Int) - 1)) < (x8_1.length : Int) then (edit_Tidy.j2 kj9 a0 x8_1 (x8_1.length : Int) l1 (l1.length : Int) x23_1 (((rd_T41 x8_1 (wrap64 ((x8_1.length : Int) - 1))).f0.f1) == t388) t388 t389 t390) else (none)) else (none)) else (edit_Tidy.j2 kj9 a0 x8_1 (x8_1.length : Int) l1 (l1.length : Int) x23_1 false t388 t389 t390)) = some (r1, r2) := by rw [if_neg (show ¬ (false = true) by decide)] at H; exact H
          clear H
          have H := H1
          clear H1
          have HC19 := Aside0.mk H
          clear H
          obtain ⟨Ao20, co20, eo20⟩ := Kd.R_slice HO_8.out
          subst eo20
          go_upto_region 11 with (fail)
          go_cut [58] (fun v58 wc => ∃ (kq : Nat) (x58_18 : Bool), v58 = .bool x58_18 ∧ Aside0 (edit_Tidy.j2 kq a0 x8_1 (x8_1.length : Int) l1 (l1.length : Int) x23_1 x58_18 t388 t389 t390 = some (r1, r2)) ∧ Aside0 (kq ≤ kj9) ∧ Aside0 (Kd.R k41 41 wc w.heap.size (fun k_ => k_ ≠ gb387) (.slice Ao20 x8_1.length co20) x8_1) ∧ Aside0 (wc.heap[gb387]? = some (.cells #[.int .i64 t388, .int .i64 t389, .string t390] 41 (0, 0))) ∧ Aside0 (Below w.heap.size w wc))
          case first =>
           have H := HC19.out
           clear HC19
           by_cases c21 : (x8_1.length : Int) > 0
           ·rw [if_pos c21] at H
            have c21b0 : decide (0 < (x8_1.length : Int)) = true := decide_eq_true c21
            have c21b1 : decide (0 < x8_1.length) = true := decide_eq_true (by omega)
            clear c21
            (first | rw [c21b0] | (simp only [i64_w, i32_w]; rw [c21b0]) | skip)
            obtain ⟨ji22, hji22⟩ : ∃ j_ : Int, (wrap64 ((x8_1.length : Int) - 1)) = j_ := ⟨_, rfl⟩
            replace H : (if 0 ≤ (ji22) then (if (ji22) < (x8_1.length : Int) then (edit_Tidy.j2 kj9 a0 x8_1 (x8_1.length : Int) l1 (l1.length : Int) x23_1 (((rd_T41 x8_1 (ji22)).f0.f1) == t388) t388 t389 t390) else (none)) else (none)) = some (r1, r2) := by first | (rw [hji22] at H; exact H) | (simp only [hji22] at H ⊢; exact H)
            have hji22w : (IntKind.i64.wrap ((x8_1.length : Int) - 1)) = ji22 := (i64_w _).trans hji22
            by_cases c23 : 0 ≤ (ji22)
            ·rw [if_pos c23] at H
             have c23b0 : decide (0 ≤ (ji22)) = true := decide_eq_true c23
             clear c23
             by_cases c24 : (ji22) < (x8_1.length : Int)
             ·rw [if_pos c24] at H
              have c24b0 : decide ((ji22) < (x8_1.length : Int)) = true := decide_eq_true c24
              clear c24
              have H' := Aside0.mk H
              clear H
              try go_wp2
              have n0_ := Aside0.mk (Kd.R_drew HO_8.out)
              have n1_ := Aside0.mk (blk_drew BK387.out)
              have n2_ := Aside0.mk (below_drew1 HB.out)
              clear HO_8
              clear BK387
              clear HB
              have HO_8 := n0_
              have BK387 := n1_
              have HB := n2_
              clear n0_ n1_ n2_
              have p391 : 0 ≤ ((ji22) : Int) := pxd
              have q391 : (ji22) < (x8_1.length : Int) := pxd
              obtain ⟨ad391, e391, hx391_0, hx391_1, hx391_2⟩ := at_T41 (Kd.R_reads' HO_8.out).2.2 (ji22) p391 q391
              cases e391
              replace p391 := eq_true p391
              replace q391 := eq_true q391
              refine start_ (n := 15) (S := fun w' => w'.cell? ⟨gb387, 0, none⟩ = some (.int .i64 t388) ∧ w'.cell? ⟨gb387, 1, none⟩ = some (.int .i64 t389) ∧ w'.cell? ⟨gb387, 2, none⟩ = some (.string t390) ∧ w'.cell? (ad391.add (((ji22)).toNat * 3)) = some (.int .i64 ((rd_T41 x8_1 (ji22)).f0.f0)) ∧ w'.cell? ⟨(ad391.add (((ji22)).toNat * 3)).block, (ad391.add (((ji22)).toNat * 3)).off + 1, none⟩ = some (.int .i64 ((rd_T41 x8_1 (ji22)).f0.f1)) ∧ w'.cell? ⟨(ad391.add (((ji22)).toNat * 3)).block, (ad391.add (((ji22)).toNat * 3)).off + 2, none⟩ = some (.string ((rd_T41 x8_1 (ji22)).f1))) (ds := []) #[false, false, false, false, false, false, false, false, false, false, false, false, false, false, false] (by kernel_rfl) rfl rfl ⟨(blk_cell BK387.out 0).trans rfl, (blk_cell BK387.out 1).trans rfl, (blk_cell BK387.out 2).trans rfl, hx391_0, hx391_1, hx391_2⟩ (fun hHeld => ?_); refine with_tabW edit_Tidy.tab11 edit_Tidy.bits11 (fun HT_ HW_ => ?_)
              generalize wc.drew = w25 at HO_8 BK387 HB hx391_0 hx391_1 hx391_2 hHeld ⊢
              refine pS 0 44 HT_ ?_
              refine pS 1 45 HT_ ?_
              refine pS 2 46 HT_ ?_
              refine pS 3 47 HT_ ?_
              refine pS 4 48 HT_ ?_
              refine pS 5 49 HT_ ?_
              refine pS 6 50 HT_ ?_
              refine pS 7 51 HT_ ?_
              refine pS 8 52 HT_ ?_
              refine pS 10 54 HT_ ?_
              refine pS 11 55 HT_ ?_
              refine tS 9 53 HT_ HW_ hHeld ?_
              refine tS 12 56 HT_ HW_ hHeld ?_
              refine pS 13 57 HT_ ?_
              refine pS 14 58 HT_ ?_
              refine done_ (done_of HT_.out (by kernel_rfl)) ?_
              try go_wp2
              go_meet
              case rel => exact ⟨_, ((((rd_T41 x8_1 (ji22)).f0.f1) == t388)), (by first | rfl | (simp; done) | (simp only [← hji22] <;> (first | rfl | simp)) | (simp [*]; done)), H', ⟨by have := HK1.out; have := HJ9.out; first | omega | exact Nat.le_refl _⟩, ⟨pxr HO_8⟩, ⟨pxq BK387⟩, ⟨pxb HB⟩⟩
             ·rw [if_neg c24] at H
              exact absurd H (by simp)
            ·rw [if_neg c23] at H
             exact absurd H (by simp)
           ·rw [if_neg c21] at H
            have c21b0 : decide (0 < (x8_1.length : Int)) = false := decide_eq_false c21
            have c21b1 : decide (0 < x8_1.length) = false := decide_eq_false (by omega)
            clear c21
            (first | rw [c21b0] | (simp only [i64_w, i32_w]; rw [c21b0]) | skip)
            have H' := Aside0.mk H
            clear H
            try go_wp2
            have n0_ := Aside0.mk (Kd.R_drew HO_8.out)
            have n1_ := Aside0.mk (blk_drew BK387.out)
            have n2_ := Aside0.mk (below_drew1 HB.out)
            clear HO_8
            clear BK387
            clear HB
            have HO_8 := n0_
            have BK387 := n1_
            have HB := n2_
            clear n0_ n1_ n2_
            refine start_ (n := 15) (S := fun w' => True) (ds := []) #[false, false, false, false, false, false, false, false, false, false, false, false, false, false, false] (by kernel_rfl) rfl rfl trivial (fun hHeld => ?_); refine with_tabW edit_Tidy.tab11 edit_Tidy.bits11 (fun HT_ HW_ => ?_)
            generalize wc.drew = w26 at HO_8 BK387 HB hHeld ⊢
            refine pS 0 44 HT_ ?_
            refine pS 1 45 HT_ ?_
            refine pS 2 46 HT_ ?_
            refine pU 3 47 HT_ ?_
            refine pU 4 48 HT_ ?_
            refine pU 5 49 HT_ ?_
            refine pU 6 50 HT_ ?_
            refine pU 7 51 HT_ ?_
            refine pU 8 52 HT_ ?_
            refine pU 9 53 HT_ ?_
            refine pU 10 54 HT_ ?_
            refine pU 11 55 HT_ ?_
            refine pU 12 56 HT_ ?_
            refine pU 13 57 HT_ ?_
            refine pS 14 58 HT_ ?_
            refine done_ (done_of HT_.out (by kernel_rfl)) ?_
            try go_wp2
            go_meet
            case rel => exact ⟨_, (false), (by first | rfl | (simp; done) | (simp [*]; done)), H', ⟨by have := HK1.out; have := HJ9.out; first | omega | exact Nat.le_refl _⟩, ⟨pxr HO_8⟩, ⟨pxq BK387⟩, ⟨pxb HB⟩⟩
          case rest => as_aux_lemma =>
           clear HC19
           (try clear c1); (try clear c2); (try clear p2); (try clear c3); (try clear p3); (try clear q3); (try clear hx3); (try clear c4); (try clear c4b0); (try clear c4b1); (try clear c6); (try clear c6b0); (try clear p6); (try clear c7); (try clear c7b0); (try clear c8); (try clear c8b0); (try clear c15); (try clear c15b0); (try clear c15b1); (try clear c18); (try clear c20); (try clear c21); (try clear c21b0); (try clear c21b1); (try clear c22); (try clear c23); (try clear c23b0); (try clear c24); (try clear c24b0); (try clear hcz12_0 hcz12_1 hcz12_2 hfz12_0 hfz12_1 hfz12_2); (try clear hcz14_0 hcz14_1 hcz14_2 hfz14_0 hfz14_1 hfz14_2); (try clear hcz16_0 hcz16_1 hcz16_2 hfz16_0 hfz16_1 hfz16_2); (try clear hcz17_0 hcz17_1 hcz17_2 hfz17_0 hfz17_1 hfz17_2); (try clear hx386_0); (try clear hx386_1); (try clear hx386_2); (try clear hx391_0); (try clear hx391_1); (try clear hx391_2); (try clear p386); (try clear p391); (try clear q386); (try clear q391)
           obtain ⟨kq, x58_18, rfl, HA, HJ18, HO_8, BK387, HB⟩ := hcut
           cases kq with
           | zero => exact absurd HA.out (by simp [edit_Tidy.j2])
           | succ kj18 =>
            have H := HA.out
            clear HA
            simp only [edit_Tidy.j2] at H
            by_cases c27 : x58_18 = true
            ·subst c27
             have H1 : (if 0 ≤ (wrap64 ((x8_1.length : Int) - 1)) then (if (wrap64 ((x8_1.length : Int) - 1)) < (x8_1.length : Int) then (if ((rd_T41 x8_1 (wrap64 ((x8_1.length : Int) - 1))).f1).size + t390.size ≤ 9223372036854775807 then ((edit_trim.f kj18 a0 ((rd_T41 x8_1 (wrap64 ((x8_1.length : Int) - 1))).f0.f0) t389 (((rd_T41 x8_1 (wrap64 ((x8_1.length : Int) - 1))).f1) ++ t390)).bind fun bt394 => (if (wrap64 ((x8_1.length : Int) - 1)) ≤ (x8_1.length : Int) then ((some (x8_1.take ((wrap64 ((x8_1.length : Int) - 1)) : Int).toNat : List (S41))).bind fun y397 => (if bt394.1 = bt394.2.1 then (if bt394.2.2.toList = ([] : List UInt8) then (edit_Tidy.l0 kj18 a0 y397 l1 (l1.length : Int) (wrap64 (x23_1 + 1))) else (if y397.length < 4398046511104 then (edit_Tidy.l0 kj18 a0 (y397 ++ [(⟨(⟨bt394.1, bt394.2.1⟩ : S39), bt394.2.2⟩ : S41)]) l1 (l1.length : Int) (wrap64 (x23_1 + 1))) else (none))) else (if y397.length < 4398046511104 then (edit_Tidy.l0 kj18 a0 (y397 ++ [(⟨(⟨bt394.1, bt394.2.1⟩ : S39), bt394.2.2⟩ : S41)]) l1 (l1.length : Int) (wrap64 (x23_1 + 1))) else (none)))) else (none))) else (none)) else (none)) else (none)) = some (r1, r2) := by rw [if_pos rfl] at H; exact H
             clear H
             have H := H1
             clear H1
             obtain ⟨ji28, hji28⟩ : ∃ j_ : Int, (wrap64 ((x8_1.length : Int) - 1)) = j_ := ⟨_, rfl⟩
             replace H : (if 0 ≤ (ji28) then (if (ji28) < (x8_1.length : Int) then (if ((rd_T41 x8_1 (ji28)).f1).size + t390.size ≤ 9223372036854775807 then ((edit_trim.f kj18 a0 ((rd_T41 x8_1 (ji28)).f0.f0) t389 (((rd_T41 x8_1 (ji28)).f1) ++ t390)).bind fun bt394 => (if (ji28) ≤ (x8_1.length : Int) then ((some (x8_1.take ((ji28) : Int).toNat : List (S41))).bind fun y397 => (if bt394.1 = bt394.2.1 then (if bt394.2.2.toList = ([] : List UInt8) then (edit_Tidy.l0 kj18 a0 y397 l1 (l1.length : Int) (wrap64 (x23_1 + 1))) else (if y397.length < 4398046511104 then (edit_Tidy.l0 kj18 a0 (y397 ++ [(⟨(⟨bt394.1, bt394.2.1⟩ : S39), bt394.2.2⟩ : S41)]) l1 (l1.length : Int) (wrap64 (x23_1 + 1))) else (none))) else (if y397.length < 4398046511104 then (edit_Tidy.l0 kj18 a0 (y397 ++ [(⟨(⟨bt394.1, bt394.2.1⟩ : S39), bt394.2.2⟩ : S41)]) l1 (l1.length : Int) (wrap64 (x23_1 + 1))) else (none)))) else (none))) else (none)) else (none)) else (none)) = some (r1, r2) := by first | (rw [hji28] at H; exact H) | (simp only [hji28] at H ⊢; exact H)
             have hji28w : (IntKind.i64.wrap ((x8_1.length : Int) - 1)) = ji28 := (i64_w _).trans hji28
             by_cases c29 : 0 ≤ (ji28)
             ·rw [if_pos c29] at H
              have c29b0 : decide (0 ≤ (ji28)) = true := decide_eq_true c29
              clear c29
              by_cases c30 : (ji28) < (x8_1.length : Int)
              ·rw [if_pos c30] at H
               have c30b0 : decide ((ji28) < (x8_1.length : Int)) = true := decide_eq_true c30
               clear c30
               by_cases c31 : ((rd_T41 x8_1 (ji28)).f1).size + t390.size ≤ 9223372036854775807
               ·rw [if_pos c31] at H
                have c31b0 := eq_true c31
                have c31b1 : decide (((rd_T41 x8_1 (ji28)).f1).size + t390.size ≤ 9223372036854775807) = true := decide_eq_true c31
                try have c31b2 : (9223372036854775807 < ((rd_T41 x8_1 (ji28)).f1).size + t390.size) = False := eq_false (Nat.not_lt.2 c31)
                replace H := Option.bind_eq_some_iff.mp H
                obtain ⟨⟨t394, t395, t396⟩, A320, H⟩ := H
                replace H : (if (ji28) ≤ (x8_1.length : Int) then ((some (x8_1.take ((ji28) : Int).toNat : List (S41))).bind fun y397 => (if t394 = t395 then (if t396.toList = ([] : List UInt8) then (edit_Tidy.l0 kj18 a0 y397 l1 (l1.length : Int) (wrap64 (x23_1 + 1))) else (if y397.length < 4398046511104 then (edit_Tidy.l0 kj18 a0 (y397 ++ [(⟨(⟨t394, t395⟩ : S39), t396⟩ : S41)]) l1 (l1.length : Int) (wrap64 (x23_1 + 1))) else (none))) else (if y397.length < 4398046511104 then (edit_Tidy.l0 kj18 a0 (y397 ++ [(⟨(⟨t394, t395⟩ : S39), t396⟩ : S41)]) l1 (l1.length : Int) (wrap64 (x23_1 + 1))) else (none)))) else (none)) = some (r1, r2) := H
                have A32 := Aside0.mk A320
                clear A320
                by_cases c33 : (ji28) ≤ (x8_1.length : Int)
                ·rw [if_pos c33] at H
                 have c33b0 := eq_true c33
                 have c33b1 : decide ((ji28) ≤ (x8_1.length : Int)) = true := decide_eq_true c33
                 clear c33
                 obtain ⟨y397, hy397⟩ : ∃ y_ : List (S41), y_ = (x8_1.take ((ji28) : Int).toNat) := ⟨_, rfl⟩
                 replace H : (if t394 = t395 then (if t396.toList = ([] : List UInt8) then (edit_Tidy.l0 kj18 a0 y397 l1 (l1.length : Int) (wrap64 (x23_1 + 1))) else (if y397.length < 4398046511104 then (edit_Tidy.l0 kj18 a0 (y397 ++ [(⟨(⟨t394, t395⟩ : S39), t396⟩ : S41)]) l1 (l1.length : Int) (wrap64 (x23_1 + 1))) else (none))) else (if y397.length < 4398046511104 then (edit_Tidy.l0 kj18 a0 (y397 ++ [(⟨(⟨t394, t395⟩ : S39), t396⟩ : S41)]) l1 (l1.length : Int) (wrap64 (x23_1 + 1))) else (none))) = some (r1, r2) := by first | (rw [hy397]; with_reducible exact H) | (have H2_ := (Option.bind_some _ _).symm.trans H; rw [hy397]; with_reducible exact H2_) | (have H2_ := (Option.bind_some _ _).symm.trans H; with_reducible exact H2_) | with_reducible exact H | (rw [hy397]; exact H) | exact H
                 have Ny397 := Aside0.mk hy397
                 clear hy397
                 by_cases c34 : t394 = t395
                 ·rw [if_pos c34] at H
                  have c34b0 : (t394 == t395) = true := beq_iff_eq.mpr c34
                  have c34b1 : (t394 != t395) = false := bne_eq_false_iff_eq.mpr c34
                  clear c34
                  by_cases c35 : t396.toList = ([] : List UInt8)
                  ·rw [if_pos c35] at H
                   have c35b0 : (t396.toList == ([] : List UInt8)) = true := beq_iff_eq.mpr c35
                   (try (have c35b0e : (t396.toList.isEmpty) = true := by simpa only [pxbeq, pxbne] using c35b0))
                   have c35b1 : (t396.toList != ([] : List UInt8)) = false := bne_eq_false_iff_eq.mpr c35
                   (try (have c35b1e : ((!t396.toList.isEmpty)) = false := by simpa only [pxbeq, pxbne] using c35b1))
                   clear c35
                   have H' := Aside0.mk H
                   clear H
                   try go_wp2
                   have n0_ := Aside0.mk (Kd.R_drew HO_8.out)
                   have n1_ := Aside0.mk (blk_drew BK387.out)
                   have n2_ := Aside0.mk (below_drew1 HB.out)
                   clear HO_8
                   clear BK387
                   clear HB
                   have HO_8 := n0_
                   have BK387 := n1_
                   have HB := n2_
                   clear n0_ n1_ n2_
                   have p392 : 0 ≤ ((ji28) : Int) := pxd
                   have q392 : (ji28) < (x8_1.length : Int) := pxd
                   obtain ⟨ad392, e392, hx392_0, hx392_1, hx392_2⟩ := at_T41 (Kd.R_reads' HO_8.out).2.2 (ji28) p392 q392
                   cases e392
                   replace p392 := eq_true p392
                   replace q392 := eq_true q392
                   have p393 : 0 ≤ ((ji28) : Int) := pxd
                   have q393 : (ji28) < (x8_1.length : Int) := pxd
                   obtain ⟨ad393, e393, hx393_0, hx393_1, hx393_2⟩ := at_T41 (Kd.R_reads' HO_8.out).2.2 (ji28) p393 q393
                   obtain rfl : ad392 = ad393 := (by injection e393)
                   replace p393 := eq_true p393
                   replace q393 := eq_true q393
                   refine start_ (n := 24) (S := fun w' => w'.cell? ⟨gb387, 0, none⟩ = some (.int .i64 t388) ∧ w'.cell? ⟨gb387, 1, none⟩ = some (.int .i64 t389) ∧ w'.cell? ⟨gb387, 2, none⟩ = some (.string t390) ∧ w'.cell? (ad392.add (((ji28)).toNat * 3)) = some (.int .i64 ((rd_T41 x8_1 (ji28)).f0.f0)) ∧ w'.cell? ⟨(ad392.add (((ji28)).toNat * 3)).block, (ad392.add (((ji28)).toNat * 3)).off + 1, none⟩ = some (.int .i64 ((rd_T41 x8_1 (ji28)).f0.f1)) ∧ w'.cell? ⟨(ad392.add (((ji28)).toNat * 3)).block, (ad392.add (((ji28)).toNat * 3)).off + 2, none⟩ = some (.string ((rd_T41 x8_1 (ji28)).f1)) ∧ w'.cell? (ad392.add (((ji28)).toNat * 3)) = some (.int .i64 ((rd_T41 x8_1 (ji28)).f0.f0)) ∧ w'.cell? ⟨(ad392.add (((ji28)).toNat * 3)).block, (ad392.add (((ji28)).toNat * 3)).off + 1, none⟩ = some (.int .i64 ((rd_T41 x8_1 (ji28)).f0.f1)) ∧ w'.cell? ⟨(ad392.add (((ji28)).toNat * 3)).block, (ad392.add (((ji28)).toNat * 3)).off + 2, none⟩ = some (.string ((rd_T41 x8_1 (ji28)).f1))) (ds := [23]) #[false, false, false, false, false, false, false, false, false, false, false, false, false, false, false, false, false, false, false, false, false, false, false, false] (by kernel_rfl) rfl rfl ⟨(blk_cell BK387.out 0).trans rfl, (blk_cell BK387.out 1).trans rfl, (blk_cell BK387.out 2).trans rfl, hx392_0, hx392_1, hx392_2, hx393_0, hx393_1, hx393_2⟩ (fun hHeld => ?_); refine with_tabW edit_Tidy.tab12 edit_Tidy.bits12 (fun HT_ HW_ => ?_)
                   generalize wc.drew = w36 at HO_8 BK387 HB hx392_0 hx392_1 hx392_2 hx393_0 hx393_1 hx393_2 hHeld ⊢
                   refine pS 0 59 HT_ ?_
                   refine pS 1 60 HT_ ?_
                   refine pS 2 61 HT_ ?_
                   refine pS 3 62 HT_ ?_
                   refine pS 4 63 HT_ ?_
                   refine pS 5 64 HT_ ?_
                   refine pS 6 65 HT_ ?_
                   refine pS 8 67 HT_ ?_
                   refine pS 9 68 HT_ ?_
                   refine pS 12 71 HT_ ?_
                   refine pS 13 72 HT_ ?_
                   refine pS 14 73 HT_ ?_
                   refine pS 15 74 HT_ ?_
                   refine pS 16 75 HT_ ?_
                   refine pS 18 77 HT_ ?_
                   refine tS 7 66 HT_ HW_ hHeld ?_
                   refine tS 10 69 HT_ HW_ hHeld ?_
                   refine pS 11 70 HT_ ?_
                   refine tS 17 76 HT_ HW_ hHeld ?_
                   refine tS 19 78 HT_ HW_ hHeld ?_
                   refine pS 20 79 HT_ ?_
                   refine pS 21 80 HT_ ?_
                   refine oS 22 HT_ (fun K hK => ?_)
                   refine goes_ Try.func32 (by kernel_rfl) rfl #[.string a0, .agg #[.int .i64 ((rd_T41 x8_1 (ji28)).f0.f0), .int .i64 t389, .string (((rd_T41 x8_1 (ji28)).f1) ++ t390)]] (by rfl) rfl rfl (by (try simp only [List.map_toArray, List.map_cons, List.map_nil]); first | done | (simp only [hji28]; rfl) | rfl | (simp only [List.length_drop, List.length_take]; rfl)) ?_
                   with_reducible refine (edit_trim.calls kj18 a0 ((rd_T41 x8_1 (ji28)).f0.f0) t389 (((rd_T41 x8_1 (ji28)).f1) ++ t390) t394 t395 t396 _ A32.out).mono ?_
                   rintro e w37 ⟨rfl, hb⟩
                   have HS3_ := (hb.cell (World.block_lt_of_cell? _ _ (hHeld.2.2.2.1))).trans (hHeld.2.2.2.1)
                   have HS4_ := (hb.cell (World.block_lt_of_cell? _ _ (hHeld.2.2.2.2.1))).trans (hHeld.2.2.2.2.1)
                   have HS5_ := (hb.cell (World.block_lt_of_cell? _ _ (hHeld.2.2.2.2.2.1))).trans (hHeld.2.2.2.2.2.1)
                   have HS6_ := (hb.cell (World.block_lt_of_cell? _ _ (hHeld.2.2.2.2.2.2.1))).trans (hHeld.2.2.2.2.2.2.1)
                   have HS7_ := (hb.cell (World.block_lt_of_cell? _ _ (hHeld.2.2.2.2.2.2.2.1))).trans (hHeld.2.2.2.2.2.2.2.1)
                   have HS8_ := (hb.cell (World.block_lt_of_cell? _ _ (hHeld.2.2.2.2.2.2.2.2))).trans (hHeld.2.2.2.2.2.2.2.2)
                   refine ⟨_, rfl, ?_⟩
                   have n0_ := Aside0.mk (Kd.R_below (pxr HO_8) hb)
                   have n1_ := pxk BK387 hb
                   have n2_ := pxs HB hb
                   clear HO_8
                   clear BK387
                   clear HB
                   have HO_8 := n0_
                   have BK387 := n1_
                   have HB := n2_
                   clear n0_ n1_ n2_
                   (try clear hb)
                   (try clear hb2)
                   (try clear hk)
                   (try clear hi)
                   refine hK.out _ _ ⟨(blk_cell BK387.out 0).trans rfl, (blk_cell BK387.out 1).trans rfl, (blk_cell BK387.out 2).trans rfl, HS3_, HS4_, HS5_, HS6_, HS7_, HS8_⟩ (fun hHeld => ?_)
                   clear hK K
                   refine nS 81 ?_
                   refine last_ (i := 23) (N := none) #[true, true, true, true, true, true, true, true, true, true, true, true, true, true, true, true, true, true, true, true, true, true, true, true] rfl rfl (one_of HT_.out (by kernel_rfl)) (by decide) (fun K hK => ?_)
                   have hs38 : w37.cell? ⟨gb387, 0, none⟩ = some (.int .i64 t388) := (blk_cell BK387.out 0).trans rfl
                   have hfs38 := blk_frozen BK387.out 0
                   have hs39 : w37.cell? ⟨gb387, 1, none⟩ = some (.int .i64 t389) := (blk_cell BK387.out 1).trans rfl
                   have hfs39 := blk_frozen BK387.out 1
                   have hs40 : w37.cell? ⟨gb387, 2, none⟩ = some (.string t390) := (blk_cell BK387.out 2).trans rfl
                   have hfs40 := blk_frozen BK387.out 2
                   refine skip_ (w1 := ?_) (by rfl) rfl ?_ ?_
                   rotate_left
                   ·go_simp
                    rfl
                   refine hK.out _ _ ?_
                   clear hK K
                   refine done_ (done_of HT_.out (by kernel_rfl)) ?_
                   have n0_ : Aside0 (Kd.R k41 41 (((w37.setCell ⟨gb387, 0, none⟩ (.int .i64 t394)).setCell ⟨gb387, 1, none⟩ (.int .i64 t395)).setCell ⟨gb387, 2, none⟩ (.string t396)) w.heap.size (fun k_ => k_ ≠ gb387) (.slice (some ad392) x8_1.length co20) x8_1) := ⟨by (with_reducible repeat (first | apply Kd.R_alloc | apply Kd.R_drewN | apply Kd.R_drew)); exact Kd.R_mono (Kd.R_far (p := ⟨gb387, 2, none⟩) (Kd.R_far (p := ⟨gb387, 1, none⟩) (Kd.R_far (p := ⟨gb387, 0, none⟩) (Kd.R_mono HO_8.out (fun k_ hk => (⟨hk, hk⟩ : _ ∧ k_ ≠ gb387))) (fun _ hk => hk.2) (.int .i64 t394)) (fun _ hk => hk.2) (.int .i64 t395)) (fun _ hk => hk.2) (.string t396)) (fun _ hk => hk.1)⟩
                   have n1_ : Aside0 ((((w37.setCell ⟨gb387, 0, none⟩ (.int .i64 t394)).setCell ⟨gb387, 1, none⟩ (.int .i64 t395)).setCell ⟨gb387, 2, none⟩ (.string t396)).heap[gb387]? = some (.cells #[.int .i64 t394, .int .i64 t395, .string t396] 41 (0, 0))) := ⟨pxp BK387⟩
                   have n2_ : Aside0 (Below w.heap.size w (((w37.setCell ⟨gb387, 0, none⟩ (.int .i64 t394)).setCell ⟨gb387, 1, none⟩ (.int .i64 t395)).setCell ⟨gb387, 2, none⟩ (.string t396))) := ⟨pxb HB⟩
                   (try clear HO_8)
                   (try clear BK387)
                   (try clear HB)
                   generalize (((w37.setCell ⟨gb387, 0, none⟩ (.int .i64 t394)).setCell ⟨gb387, 1, none⟩ (.int .i64 t395)).setCell ⟨gb387, 2, none⟩ (.string t396)) = w41 at n0_ n1_ n2_ ⊢
                   have HO_8 := n0_
                   have BK387 := n1_
                   have HB := n2_
                   clear n0_ n1_ n2_
                   have q42 : ((ji28) : Int) ≤ ((x8_1.length : Int) : Int) := pxd
                   obtain ⟨i042, hi042, _, hsz42, _⟩ := info_parts info41
                   have hcut42 := cut_to (P := Try.prog) 23 41 .i64 Try.underlying23 hi042 (some ad392) x8_1.length co20 (ji28) (pxd) q42 (Kd.R_reads' HO_8.out).2.1
                   have hr42 := Kd.R_take (m := ((ji28) : Int).toNat) HO_8.out (by omega)
                   have hy42 : y397.length = ((ji28) : Int).toNat := (by rw [Ny397.out, List.length_take]; omega)
                   rw [← Ny397.out] at hr42
                   rw [← hy42] at hr42 hcut42
                   clear hy42 hi042 hsz42 HO_8
                   have HO399 := Aside0.mk hr42
                   clear hr42
                   replace q42 := eq_true q42
                   have hcz43_0 : w41.cell? ⟨gb387, 0, none⟩ = some (.int .i64 t394) := (blk_cell BK387.out 0).trans rfl
                   have hcz43_1 : w41.cell? ⟨gb387, 1, none⟩ = some (.int .i64 t395) := (blk_cell BK387.out 1).trans rfl
                   have hcz43_2 : w41.cell? ⟨gb387, 2, none⟩ = some (.string t396) := (blk_cell BK387.out 2).trans rfl
                   have hfz43_0 := blk_frozen BK387.out 0
                   have hfz43_1 := blk_frozen BK387.out 1
                   have hfz43_2 := blk_frozen BK387.out 2
                   try go_wp2
                   go_roundg kj18
                   case measure => have := HK1.out; have := HJ9.out; have := HJ18.out; omega
                   case rel => exact ⟨(y397), (wrap64 (x23_1 + 1)), (by first | rfl | (simp; done) | (simp [*]; done)), H', ⟨by have := HK1.out; have := HJ9.out; have := HJ18.out; omega⟩, ⟨by (with_reducible repeat (first | apply Kd.R_alloc | apply Kd.R_drewN | apply Kd.R_drew)); exact Kd.R_mono HO399.out (fun _ hk => trivial)⟩, ⟨pxb HB⟩⟩
                  ·rw [if_neg c35] at H
                   have c35b0 : (t396.toList == ([] : List UInt8)) = false := beq_eq_false_iff_ne.mpr c35
                   (try (have c35b0e : (t396.toList.isEmpty) = false := by simpa only [pxbeq, pxbne] using c35b0))
                   have c35b1 : (t396.toList != ([] : List UInt8)) = true := bne_iff_ne.mpr c35
                   (try (have c35b1e : ((!t396.toList.isEmpty)) = true := by simpa only [pxbeq, pxbne] using c35b1))
                   by_cases c44 : y397.length < 4398046511104
                   ·rw [if_pos c44] at H
                    have LMc44 := Aside0.mk c44
                    clear c44
                    obtain ⟨y400, hy400⟩ : ∃ y_ : List (S41), y_ = (y397 ++ [(⟨(⟨t394, t395⟩ : S39), t396⟩ : S41)]) := ⟨_, rfl⟩
                    replace H : (edit_Tidy.l0 kj18 a0 y400 l1 (l1.length : Int) (wrap64 (x23_1 + 1))) = some (r1, r2) := by first | (rw [hy400]; with_reducible exact H) | (have H2_ := (Option.bind_some _ _).symm.trans H; rw [hy400]; with_reducible exact H2_) | (have H2_ := (Option.bind_some _ _).symm.trans H; with_reducible exact H2_) | with_reducible exact H | (rw [hy400]; exact H) | exact H
                    have Ny400 := Aside0.mk hy400
                    clear hy400
                    have H' := Aside0.mk H
                    clear H
                    try go_wp2
                    have n0_ := Aside0.mk (Kd.R_drew HO_8.out)
                    have n1_ := Aside0.mk (blk_drew BK387.out)
                    have n2_ := Aside0.mk (below_drew1 HB.out)
                    clear HO_8
                    clear BK387
                    clear HB
                    have HO_8 := n0_
                    have BK387 := n1_
                    have HB := n2_
                    clear n0_ n1_ n2_
                    have p392 : 0 ≤ ((ji28) : Int) := pxd
                    have q392 : (ji28) < (x8_1.length : Int) := pxd
                    obtain ⟨ad392, e392, hx392_0, hx392_1, hx392_2⟩ := at_T41 (Kd.R_reads' HO_8.out).2.2 (ji28) p392 q392
                    cases e392
                    replace p392 := eq_true p392
                    replace q392 := eq_true q392
                    have p393 : 0 ≤ ((ji28) : Int) := pxd
                    have q393 : (ji28) < (x8_1.length : Int) := pxd
                    obtain ⟨ad393, e393, hx393_0, hx393_1, hx393_2⟩ := at_T41 (Kd.R_reads' HO_8.out).2.2 (ji28) p393 q393
                    obtain rfl : ad392 = ad393 := (by injection e393)
                    replace p393 := eq_true p393
                    replace q393 := eq_true q393
                    refine start_ (n := 24) (S := fun w' => w'.cell? ⟨gb387, 0, none⟩ = some (.int .i64 t388) ∧ w'.cell? ⟨gb387, 1, none⟩ = some (.int .i64 t389) ∧ w'.cell? ⟨gb387, 2, none⟩ = some (.string t390) ∧ w'.cell? (ad392.add (((ji28)).toNat * 3)) = some (.int .i64 ((rd_T41 x8_1 (ji28)).f0.f0)) ∧ w'.cell? ⟨(ad392.add (((ji28)).toNat * 3)).block, (ad392.add (((ji28)).toNat * 3)).off + 1, none⟩ = some (.int .i64 ((rd_T41 x8_1 (ji28)).f0.f1)) ∧ w'.cell? ⟨(ad392.add (((ji28)).toNat * 3)).block, (ad392.add (((ji28)).toNat * 3)).off + 2, none⟩ = some (.string ((rd_T41 x8_1 (ji28)).f1)) ∧ w'.cell? (ad392.add (((ji28)).toNat * 3)) = some (.int .i64 ((rd_T41 x8_1 (ji28)).f0.f0)) ∧ w'.cell? ⟨(ad392.add (((ji28)).toNat * 3)).block, (ad392.add (((ji28)).toNat * 3)).off + 1, none⟩ = some (.int .i64 ((rd_T41 x8_1 (ji28)).f0.f1)) ∧ w'.cell? ⟨(ad392.add (((ji28)).toNat * 3)).block, (ad392.add (((ji28)).toNat * 3)).off + 2, none⟩ = some (.string ((rd_T41 x8_1 (ji28)).f1))) (ds := [23]) #[false, false, false, false, false, false, false, false, false, false, false, false, false, false, false, false, false, false, false, false, false, false, false, false] (by kernel_rfl) rfl rfl ⟨(blk_cell BK387.out 0).trans rfl, (blk_cell BK387.out 1).trans rfl, (blk_cell BK387.out 2).trans rfl, hx392_0, hx392_1, hx392_2, hx393_0, hx393_1, hx393_2⟩ (fun hHeld => ?_); refine with_tabW edit_Tidy.tab12 edit_Tidy.bits12 (fun HT_ HW_ => ?_)
                    generalize wc.drew = w45 at HO_8 BK387 HB hx392_0 hx392_1 hx392_2 hx393_0 hx393_1 hx393_2 hHeld ⊢
                    refine pS 0 59 HT_ ?_
                    refine pS 1 60 HT_ ?_
                    refine pS 2 61 HT_ ?_
                    refine pS 3 62 HT_ ?_
                    refine pS 4 63 HT_ ?_
                    refine pS 5 64 HT_ ?_
                    refine pS 6 65 HT_ ?_
                    refine pS 8 67 HT_ ?_
                    refine pS 9 68 HT_ ?_
                    refine pS 12 71 HT_ ?_
                    refine pS 13 72 HT_ ?_
                    refine pS 14 73 HT_ ?_
                    refine pS 15 74 HT_ ?_
                    refine pS 16 75 HT_ ?_
                    refine pS 18 77 HT_ ?_
                    refine tS 7 66 HT_ HW_ hHeld ?_
                    refine tS 10 69 HT_ HW_ hHeld ?_
                    refine pS 11 70 HT_ ?_
                    refine tS 17 76 HT_ HW_ hHeld ?_
                    refine tS 19 78 HT_ HW_ hHeld ?_
                    refine pS 20 79 HT_ ?_
                    refine pS 21 80 HT_ ?_
                    refine oS 22 HT_ (fun K hK => ?_)
                    refine goes_ Try.func32 (by kernel_rfl) rfl #[.string a0, .agg #[.int .i64 ((rd_T41 x8_1 (ji28)).f0.f0), .int .i64 t389, .string (((rd_T41 x8_1 (ji28)).f1) ++ t390)]] (by rfl) rfl rfl (by (try simp only [List.map_toArray, List.map_cons, List.map_nil]); first | done | (simp only [hji28]; rfl) | rfl | (simp only [List.length_drop, List.length_take]; rfl)) ?_
                    with_reducible refine (edit_trim.calls kj18 a0 ((rd_T41 x8_1 (ji28)).f0.f0) t389 (((rd_T41 x8_1 (ji28)).f1) ++ t390) t394 t395 t396 _ A32.out).mono ?_
                    rintro e w46 ⟨rfl, hb⟩
                    have HS3_ := (hb.cell (World.block_lt_of_cell? _ _ (hHeld.2.2.2.1))).trans (hHeld.2.2.2.1)
                    have HS4_ := (hb.cell (World.block_lt_of_cell? _ _ (hHeld.2.2.2.2.1))).trans (hHeld.2.2.2.2.1)
                    have HS5_ := (hb.cell (World.block_lt_of_cell? _ _ (hHeld.2.2.2.2.2.1))).trans (hHeld.2.2.2.2.2.1)
                    have HS6_ := (hb.cell (World.block_lt_of_cell? _ _ (hHeld.2.2.2.2.2.2.1))).trans (hHeld.2.2.2.2.2.2.1)
                    have HS7_ := (hb.cell (World.block_lt_of_cell? _ _ (hHeld.2.2.2.2.2.2.2.1))).trans (hHeld.2.2.2.2.2.2.2.1)
                    have HS8_ := (hb.cell (World.block_lt_of_cell? _ _ (hHeld.2.2.2.2.2.2.2.2))).trans (hHeld.2.2.2.2.2.2.2.2)
                    refine ⟨_, rfl, ?_⟩
                    have n0_ := Aside0.mk (Kd.R_below (pxr HO_8) hb)
                    have n1_ := pxk BK387 hb
                    have n2_ := pxs HB hb
                    clear HO_8
                    clear BK387
                    clear HB
                    have HO_8 := n0_
                    have BK387 := n1_
                    have HB := n2_
                    clear n0_ n1_ n2_
                    (try clear hb)
                    (try clear hb2)
                    (try clear hk)
                    (try clear hi)
                    refine hK.out _ _ ⟨(blk_cell BK387.out 0).trans rfl, (blk_cell BK387.out 1).trans rfl, (blk_cell BK387.out 2).trans rfl, HS3_, HS4_, HS5_, HS6_, HS7_, HS8_⟩ (fun hHeld => ?_)
                    clear hK K
                    refine nS 81 ?_
                    refine last_ (i := 23) (N := none) #[true, true, true, true, true, true, true, true, true, true, true, true, true, true, true, true, true, true, true, true, true, true, true, true] rfl rfl (one_of HT_.out (by kernel_rfl)) (by decide) (fun K hK => ?_)
                    have hs47 : w46.cell? ⟨gb387, 0, none⟩ = some (.int .i64 t388) := (blk_cell BK387.out 0).trans rfl
                    have hfs47 := blk_frozen BK387.out 0
                    have hs48 : w46.cell? ⟨gb387, 1, none⟩ = some (.int .i64 t389) := (blk_cell BK387.out 1).trans rfl
                    have hfs48 := blk_frozen BK387.out 1
                    have hs49 : w46.cell? ⟨gb387, 2, none⟩ = some (.string t390) := (blk_cell BK387.out 2).trans rfl
                    have hfs49 := blk_frozen BK387.out 2
                    refine skip_ (w1 := ?_) (by rfl) rfl ?_ ?_
                    rotate_left
                    ·go_simp
                     rfl
                    refine hK.out _ _ ?_
                    clear hK K
                    refine done_ (done_of HT_.out (by kernel_rfl)) ?_
                    have n0_ : Aside0 (Kd.R k41 41 (((w46.setCell ⟨gb387, 0, none⟩ (.int .i64 t394)).setCell ⟨gb387, 1, none⟩ (.int .i64 t395)).setCell ⟨gb387, 2, none⟩ (.string t396)) w.heap.size (fun k_ => k_ ≠ gb387) (.slice (some ad392) x8_1.length co20) x8_1) := ⟨by (with_reducible repeat (first | apply Kd.R_alloc | apply Kd.R_drewN | apply Kd.R_drew)); exact Kd.R_mono (Kd.R_far (p := ⟨gb387, 2, none⟩) (Kd.R_far (p := ⟨gb387, 1, none⟩) (Kd.R_far (p := ⟨gb387, 0, none⟩) (Kd.R_mono HO_8.out (fun k_ hk => (⟨hk, hk⟩ : _ ∧ k_ ≠ gb387))) (fun _ hk => hk.2) (.int .i64 t394)) (fun _ hk => hk.2) (.int .i64 t395)) (fun _ hk => hk.2) (.string t396)) (fun _ hk => hk.1)⟩
                    have n1_ : Aside0 ((((w46.setCell ⟨gb387, 0, none⟩ (.int .i64 t394)).setCell ⟨gb387, 1, none⟩ (.int .i64 t395)).setCell ⟨gb387, 2, none⟩ (.string t396)).heap[gb387]? = some (.cells #[.int .i64 t394, .int .i64 t395, .string t396] 41 (0, 0))) := ⟨pxp BK387⟩
                    have n2_ : Aside0 (Below w.heap.size w (((w46.setCell ⟨gb387, 0, none⟩ (.int .i64 t394)).setCell ⟨gb387, 1, none⟩ (.int .i64 t395)).setCell ⟨gb387, 2, none⟩ (.string t396))) := ⟨pxb HB⟩
                    (try clear HO_8)
                    (try clear BK387)
                    (try clear HB)
                    generalize (((w46.setCell ⟨gb387, 0, none⟩ (.int .i64 t394)).setCell ⟨gb387, 1, none⟩ (.int .i64 t395)).setCell ⟨gb387, 2, none⟩ (.string t396)) = w50 at n0_ n1_ n2_ ⊢
                    have HO_8 := n0_
                    have BK387 := n1_
                    have HB := n2_
                    clear n0_ n1_ n2_
                    have q51 : ((ji28) : Int) ≤ ((x8_1.length : Int) : Int) := pxd
                    obtain ⟨i051, hi051, _, hsz51, _⟩ := info_parts info41
                    have hcut51 := cut_to (P := Try.prog) 23 41 .i64 Try.underlying23 hi051 (some ad392) x8_1.length co20 (ji28) (pxd) q51 (Kd.R_reads' HO_8.out).2.1
                    have hr51 := Kd.R_take (m := ((ji28) : Int).toNat) HO_8.out (by omega)
                    have hy51 : y397.length = ((ji28) : Int).toNat := (by rw [Ny397.out, List.length_take]; omega)
                    rw [← Ny397.out] at hr51
                    rw [← hy51] at hr51 hcut51
                    clear hy51 hi051 hsz51 HO_8
                    have HO399 := Aside0.mk hr51
                    clear hr51
                    replace q51 := eq_true q51
                    have hcz52_0 : w50.cell? ⟨gb387, 0, none⟩ = some (.int .i64 t394) := (blk_cell BK387.out 0).trans rfl
                    have hcz52_1 : w50.cell? ⟨gb387, 1, none⟩ = some (.int .i64 t395) := (blk_cell BK387.out 1).trans rfl
                    have hcz52_2 : w50.cell? ⟨gb387, 2, none⟩ = some (.string t396) := (blk_cell BK387.out 2).trans rfl
                    have hfz52_0 := blk_frozen BK387.out 0
                    have hfz52_1 := blk_frozen BK387.out 1
                    have hfz52_2 := blk_frozen BK387.out 2
                    try go_wp2_with (first | ((with_reducible refine gate_builtin (b := .append) (xs := #[.tmp 98, .tmp 100]) rfl ?_); at_builtin; refine Kd.R_append k41 (w0 := w) w.heap.size rfl (.tmp 98) (.tmp 100) 23 41 (.agg #[(.int .i64 0), (.int .i64 0), (.string ⟨#[]⟩)]) 32 rfl Try.underlying23 info41 rfl (by decide) (by omega) (.slice (some ad392) y397.length co20) y397 (⟨(⟨t394, t395⟩ : S39), t396⟩ : S41) [.int .i64 t394, .int .i64 t395, .string t396] (fun k_ => k_ ≠ gb387) (fun _ => False) rfl rfl ?aP (fun _ hk => hk.elim) ?aF ?aO ?aB ?aS ?aL ?_; (case aP => exact k41_mkM _ _ _ (⟨(⟨t394, t395⟩ : S39), t396⟩ : S41)); (case aB => exact (pxb HB)); (case aF => exact (fun k_ hk => Kd.freshB (g := gb387) (o := .cells #[.int .i64 t394, .int .i64 t395, .string t396] 41 (0, 0)) (pxq BK387) k_ hk)); (case aO => exact (pxr HO399)); (case aS => exact (below_size (pxb HB))); (case aL => have := LMc44.out; omega); intro v401 w53 ho hb hg hat; rw [← Ny400.out] at ho; have n0_ := Aside0.mk (blk_grown (g := gb387) (o := .cells #[.int .i64 t394, .int .i64 t395, .string t396] 41 (0, 0)) (pxq BK387) hg (Kd.R_away HO399.out (fun _ hk => hk))); have n1_ := Aside0.mk (hb); have n2_ := Aside0.mk (ho); clear BK387; clear HB; clear HO399; have BK387 := n0_; have HB := n1_; have HO402 := n2_; clear n0_ n1_ n2_; clear ho hb hg hat))
                    go_roundg kj18
                    case measure => have := HK1.out; have := HJ9.out; have := HJ18.out; omega
                    case rel => exact ⟨(y400), (wrap64 (x23_1 + 1)), (by first | rfl | (simp; done) | (simp [*]; done)), H', ⟨by have := HK1.out; have := HJ9.out; have := HJ18.out; omega⟩, ⟨by (with_reducible repeat (first | apply Kd.R_alloc | apply Kd.R_drewN | apply Kd.R_drew)); exact Kd.R_mono HO402.out (fun _ hk => trivial)⟩, ⟨pxb HB⟩⟩
                   ·rw [if_neg c44] at H
                    exact absurd H (by simp)
                 ·rw [if_neg c34] at H
                  have c34b0 : (t394 == t395) = false := beq_eq_false_iff_ne.mpr c34
                  have c34b1 : (t394 != t395) = true := bne_iff_ne.mpr c34
                  by_cases c54 : y397.length < 4398046511104
                  ·rw [if_pos c54] at H
                   have LMc54 := Aside0.mk c54
                   clear c54
                   obtain ⟨y403, hy403⟩ : ∃ y_ : List (S41), y_ = (y397 ++ [(⟨(⟨t394, t395⟩ : S39), t396⟩ : S41)]) := ⟨_, rfl⟩
                   replace H : (edit_Tidy.l0 kj18 a0 y403 l1 (l1.length : Int) (wrap64 (x23_1 + 1))) = some (r1, r2) := by first | (rw [hy403]; with_reducible exact H) | (have H2_ := (Option.bind_some _ _).symm.trans H; rw [hy403]; with_reducible exact H2_) | (have H2_ := (Option.bind_some _ _).symm.trans H; with_reducible exact H2_) | with_reducible exact H | (rw [hy403]; exact H) | exact H
                   have Ny403 := Aside0.mk hy403
                   clear hy403
                   have H' := Aside0.mk H
                   clear H
                   try go_wp2
                   have n0_ := Aside0.mk (Kd.R_drew HO_8.out)
                   have n1_ := Aside0.mk (blk_drew BK387.out)
                   have n2_ := Aside0.mk (below_drew1 HB.out)
                   clear HO_8
                   clear BK387
                   clear HB
                   have HO_8 := n0_
                   have BK387 := n1_
                   have HB := n2_
                   clear n0_ n1_ n2_
                   have p392 : 0 ≤ ((ji28) : Int) := pxd
                   have q392 : (ji28) < (x8_1.length : Int) := pxd
                   obtain ⟨ad392, e392, hx392_0, hx392_1, hx392_2⟩ := at_T41 (Kd.R_reads' HO_8.out).2.2 (ji28) p392 q392
                   cases e392
                   replace p392 := eq_true p392
                   replace q392 := eq_true q392
                   have p393 : 0 ≤ ((ji28) : Int) := pxd
                   have q393 : (ji28) < (x8_1.length : Int) := pxd
                   obtain ⟨ad393, e393, hx393_0, hx393_1, hx393_2⟩ := at_T41 (Kd.R_reads' HO_8.out).2.2 (ji28) p393 q393
                   obtain rfl : ad392 = ad393 := (by injection e393)
                   replace p393 := eq_true p393
                   replace q393 := eq_true q393
                   refine start_ (n := 24) (S := fun w' => w'.cell? ⟨gb387, 0, none⟩ = some (.int .i64 t388) ∧ w'.cell? ⟨gb387, 1, none⟩ = some (.int .i64 t389) ∧ w'.cell? ⟨gb387, 2, none⟩ = some (.string t390) ∧ w'.cell? (ad392.add (((ji28)).toNat * 3)) = some (.int .i64 ((rd_T41 x8_1 (ji28)).f0.f0)) ∧ w'.cell? ⟨(ad392.add (((ji28)).toNat * 3)).block, (ad392.add (((ji28)).toNat * 3)).off + 1, none⟩ = some (.int .i64 ((rd_T41 x8_1 (ji28)).f0.f1)) ∧ w'.cell? ⟨(ad392.add (((ji28)).toNat * 3)).block, (ad392.add (((ji28)).toNat * 3)).off + 2, none⟩ = some (.string ((rd_T41 x8_1 (ji28)).f1)) ∧ w'.cell? (ad392.add (((ji28)).toNat * 3)) = some (.int .i64 ((rd_T41 x8_1 (ji28)).f0.f0)) ∧ w'.cell? ⟨(ad392.add (((ji28)).toNat * 3)).block, (ad392.add (((ji28)).toNat * 3)).off + 1, none⟩ = some (.int .i64 ((rd_T41 x8_1 (ji28)).f0.f1)) ∧ w'.cell? ⟨(ad392.add (((ji28)).toNat * 3)).block, (ad392.add (((ji28)).toNat * 3)).off + 2, none⟩ = some (.string ((rd_T41 x8_1 (ji28)).f1))) (ds := [23]) #[false, false, false, false, false, false, false, false, false, false, false, false, false, false, false, false, false, false, false, false, false, false, false, false] (by kernel_rfl) rfl rfl ⟨(blk_cell BK387.out 0).trans rfl, (blk_cell BK387.out 1).trans rfl, (blk_cell BK387.out 2).trans rfl, hx392_0, hx392_1, hx392_2, hx393_0, hx393_1, hx393_2⟩ (fun hHeld => ?_); refine with_tabW edit_Tidy.tab12 edit_Tidy.bits12 (fun HT_ HW_ => ?_)
                   generalize wc.drew = w55 at HO_8 BK387 HB hx392_0 hx392_1 hx392_2 hx393_0 hx393_1 hx393_2 hHeld ⊢
                   refine pS 0 59 HT_ ?_
                   refine pS 1 60 HT_ ?_
                   refine pS 2 61 HT_ ?_
                   refine pS 3 62 HT_ ?_
                   refine pS 4 63 HT_ ?_
                   refine pS 5 64 HT_ ?_
                   refine pS 6 65 HT_ ?_
                   refine pS 8 67 HT_ ?_
                   refine pS 9 68 HT_ ?_
                   refine pS 12 71 HT_ ?_
                   refine pS 13 72 HT_ ?_
                   refine pS 14 73 HT_ ?_
                   refine pS 15 74 HT_ ?_
                   refine pS 16 75 HT_ ?_
                   refine pS 18 77 HT_ ?_
                   refine tS 7 66 HT_ HW_ hHeld ?_
                   refine tS 10 69 HT_ HW_ hHeld ?_
                   refine pS 11 70 HT_ ?_
                   refine tS 17 76 HT_ HW_ hHeld ?_
                   refine tS 19 78 HT_ HW_ hHeld ?_
                   refine pS 20 79 HT_ ?_
                   refine pS 21 80 HT_ ?_
                   refine oS 22 HT_ (fun K hK => ?_)
                   refine goes_ Try.func32 (by kernel_rfl) rfl #[.string a0, .agg #[.int .i64 ((rd_T41 x8_1 (ji28)).f0.f0), .int .i64 t389, .string (((rd_T41 x8_1 (ji28)).f1) ++ t390)]] (by rfl) rfl rfl (by (try simp only [List.map_toArray, List.map_cons, List.map_nil]); first | done | (simp only [hji28]; rfl) | rfl | (simp only [List.length_drop, List.length_take]; rfl)) ?_
                   with_reducible refine (edit_trim.calls kj18 a0 ((rd_T41 x8_1 (ji28)).f0.f0) t389 (((rd_T41 x8_1 (ji28)).f1) ++ t390) t394 t395 t396 _ A32.out).mono ?_
                   rintro e w56 ⟨rfl, hb⟩
                   have HS3_ := (hb.cell (World.block_lt_of_cell? _ _ (hHeld.2.2.2.1))).trans (hHeld.2.2.2.1)
                   have HS4_ := (hb.cell (World.block_lt_of_cell? _ _ (hHeld.2.2.2.2.1))).trans (hHeld.2.2.2.2.1)
                   have HS5_ := (hb.cell (World.block_lt_of_cell? _ _ (hHeld.2.2.2.2.2.1))).trans (hHeld.2.2.2.2.2.1)
                   have HS6_ := (hb.cell (World.block_lt_of_cell? _ _ (hHeld.2.2.2.2.2.2.1))).trans (hHeld.2.2.2.2.2.2.1)
                   have HS7_ := (hb.cell (World.block_lt_of_cell? _ _ (hHeld.2.2.2.2.2.2.2.1))).trans (hHeld.2.2.2.2.2.2.2.1)
                   have HS8_ := (hb.cell (World.block_lt_of_cell? _ _ (hHeld.2.2.2.2.2.2.2.2))).trans (hHeld.2.2.2.2.2.2.2.2)
                   refine ⟨_, rfl, ?_⟩
                   have n0_ := Aside0.mk (Kd.R_below (pxr HO_8) hb)
                   have n1_ := pxk BK387 hb
                   have n2_ := pxs HB hb
                   clear HO_8
                   clear BK387
                   clear HB
                   have HO_8 := n0_
                   have BK387 := n1_
                   have HB := n2_
                   clear n0_ n1_ n2_
                   (try clear hb)
                   (try clear hb2)
                   (try clear hk)
                   (try clear hi)
                   refine hK.out _ _ ⟨(blk_cell BK387.out 0).trans rfl, (blk_cell BK387.out 1).trans rfl, (blk_cell BK387.out 2).trans rfl, HS3_, HS4_, HS5_, HS6_, HS7_, HS8_⟩ (fun hHeld => ?_)
                   clear hK K
                   refine nS 81 ?_
                   refine last_ (i := 23) (N := none) #[true, true, true, true, true, true, true, true, true, true, true, true, true, true, true, true, true, true, true, true, true, true, true, true] rfl rfl (one_of HT_.out (by kernel_rfl)) (by decide) (fun K hK => ?_)
                   have hs57 : w56.cell? ⟨gb387, 0, none⟩ = some (.int .i64 t388) := (blk_cell BK387.out 0).trans rfl
                   have hfs57 := blk_frozen BK387.out 0
                   have hs58 : w56.cell? ⟨gb387, 1, none⟩ = some (.int .i64 t389) := (blk_cell BK387.out 1).trans rfl
                   have hfs58 := blk_frozen BK387.out 1
                   have hs59 : w56.cell? ⟨gb387, 2, none⟩ = some (.string t390) := (blk_cell BK387.out 2).trans rfl
                   have hfs59 := blk_frozen BK387.out 2
                   refine skip_ (w1 := ?_) (by rfl) rfl ?_ ?_
                   rotate_left
                   ·go_simp
                    rfl
                   refine hK.out _ _ ?_
                   clear hK K
                   refine done_ (done_of HT_.out (by kernel_rfl)) ?_
                   have n0_ : Aside0 (Kd.R k41 41 (((w56.setCell ⟨gb387, 0, none⟩ (.int .i64 t394)).setCell ⟨gb387, 1, none⟩ (.int .i64 t395)).setCell ⟨gb387, 2, none⟩ (.string t396)) w.heap.size (fun k_ => k_ ≠ gb387) (.slice (some ad392) x8_1.length co20) x8_1) := ⟨by (with_reducible repeat (first | apply Kd.R_alloc | apply Kd.R_drewN | apply Kd.R_drew)); exact Kd.R_mono (Kd.R_far (p := ⟨gb387, 2, none⟩) (Kd.R_far (p := ⟨gb387, 1, none⟩) (Kd.R_far (p := ⟨gb387, 0, none⟩) (Kd.R_mono HO_8.out (fun k_ hk => (⟨hk, hk⟩ : _ ∧ k_ ≠ gb387))) (fun _ hk => hk.2) (.int .i64 t394)) (fun _ hk => hk.2) (.int .i64 t395)) (fun _ hk => hk.2) (.string t396)) (fun _ hk => hk.1)⟩
                   have n1_ : Aside0 ((((w56.setCell ⟨gb387, 0, none⟩ (.int .i64 t394)).setCell ⟨gb387, 1, none⟩ (.int .i64 t395)).setCell ⟨gb387, 2, none⟩ (.string t396)).heap[gb387]? = some (.cells #[.int .i64 t394, .int .i64 t395, .string t396] 41 (0, 0))) := ⟨pxp BK387⟩
                   have n2_ : Aside0 (Below w.heap.size w (((w56.setCell ⟨gb387, 0, none⟩ (.int .i64 t394)).setCell ⟨gb387, 1, none⟩ (.int .i64 t395)).setCell ⟨gb387, 2, none⟩ (.string t396))) := ⟨pxb HB⟩
                   (try clear HO_8)
                   (try clear BK387)
                   (try clear HB)
                   generalize (((w56.setCell ⟨gb387, 0, none⟩ (.int .i64 t394)).setCell ⟨gb387, 1, none⟩ (.int .i64 t395)).setCell ⟨gb387, 2, none⟩ (.string t396)) = w60 at n0_ n1_ n2_ ⊢
                   have HO_8 := n0_
                   have BK387 := n1_
                   have HB := n2_
                   clear n0_ n1_ n2_
                   have q61 : ((ji28) : Int) ≤ ((x8_1.length : Int) : Int) := pxd
                   obtain ⟨i061, hi061, _, hsz61, _⟩ := info_parts info41
                   have hcut61 := cut_to (P := Try.prog) 23 41 .i64 Try.underlying23 hi061 (some ad392) x8_1.length co20 (ji28) (pxd) q61 (Kd.R_reads' HO_8.out).2.1
                   have hr61 := Kd.R_take (m := ((ji28) : Int).toNat) HO_8.out (by omega)
                   have hy61 : y397.length = ((ji28) : Int).toNat := (by rw [Ny397.out, List.length_take]; omega)
                   rw [← Ny397.out] at hr61
                   rw [← hy61] at hr61 hcut61
                   clear hy61 hi061 hsz61 HO_8
                   have HO399 := Aside0.mk hr61
                   clear hr61
                   replace q61 := eq_true q61
                   have hcz62_0 : w60.cell? ⟨gb387, 0, none⟩ = some (.int .i64 t394) := (blk_cell BK387.out 0).trans rfl
                   have hcz62_1 : w60.cell? ⟨gb387, 1, none⟩ = some (.int .i64 t395) := (blk_cell BK387.out 1).trans rfl
                   have hcz62_2 : w60.cell? ⟨gb387, 2, none⟩ = some (.string t396) := (blk_cell BK387.out 2).trans rfl
                   have hfz62_0 := blk_frozen BK387.out 0
                   have hfz62_1 := blk_frozen BK387.out 1
                   have hfz62_2 := blk_frozen BK387.out 2
                   try go_wp2_with (first | ((with_reducible refine gate_builtin (b := .append) (xs := #[.tmp 98, .tmp 100]) rfl ?_); at_builtin; refine Kd.R_append k41 (w0 := w) w.heap.size rfl (.tmp 98) (.tmp 100) 23 41 (.agg #[(.int .i64 0), (.int .i64 0), (.string ⟨#[]⟩)]) 32 rfl Try.underlying23 info41 rfl (by decide) (by omega) (.slice (some ad392) y397.length co20) y397 (⟨(⟨t394, t395⟩ : S39), t396⟩ : S41) [.int .i64 t394, .int .i64 t395, .string t396] (fun k_ => k_ ≠ gb387) (fun _ => False) rfl rfl ?aP (fun _ hk => hk.elim) ?aF ?aO ?aB ?aS ?aL ?_; (case aP => exact k41_mkM _ _ _ (⟨(⟨t394, t395⟩ : S39), t396⟩ : S41)); (case aB => exact (pxb HB)); (case aF => exact (fun k_ hk => Kd.freshB (g := gb387) (o := .cells #[.int .i64 t394, .int .i64 t395, .string t396] 41 (0, 0)) (pxq BK387) k_ hk)); (case aO => exact (pxr HO399)); (case aS => exact (below_size (pxb HB))); (case aL => have := LMc54.out; omega); intro v404 w63 ho hb hg hat; rw [← Ny403.out] at ho; have n0_ := Aside0.mk (blk_grown (g := gb387) (o := .cells #[.int .i64 t394, .int .i64 t395, .string t396] 41 (0, 0)) (pxq BK387) hg (Kd.R_away HO399.out (fun _ hk => hk))); have n1_ := Aside0.mk (hb); have n2_ := Aside0.mk (ho); clear BK387; clear HB; clear HO399; have BK387 := n0_; have HB := n1_; have HO405 := n2_; clear n0_ n1_ n2_; clear ho hb hg hat))
                   go_roundg kj18
                   case measure => have := HK1.out; have := HJ9.out; have := HJ18.out; omega
                   case rel => exact ⟨(y403), (wrap64 (x23_1 + 1)), (by first | rfl | (simp; done) | (simp [*]; done)), H', ⟨by have := HK1.out; have := HJ9.out; have := HJ18.out; omega⟩, ⟨by (with_reducible repeat (first | apply Kd.R_alloc | apply Kd.R_drewN | apply Kd.R_drew)); exact Kd.R_mono HO405.out (fun _ hk => trivial)⟩, ⟨pxb HB⟩⟩
                  ·rw [if_neg c54] at H
                   exact absurd H (by simp)
                ·rw [if_neg c33] at H
                 exact absurd H (by simp)
               ·rw [if_neg c31] at H
                exact absurd H (by simp)
              ·rw [if_neg c30] at H
               exact absurd H (by simp)
             ·rw [if_neg c29] at H
              exact absurd H (by simp)
            ·replace c27 := Bool.eq_false_iff.mpr c27
             subst c27
             have H1 : (if x8_1.length < 4398046511104 then (edit_Tidy.l0 kj18 a0 (x8_1 ++ [(⟨(⟨t388, t389⟩ : S39), t390⟩ : S41)]) l1 (l1.length : Int) (wrap64 (x23_1 + 1))) else (none)) = some (r1, r2) := by rw [if_neg (show ¬ (false = true) by decide)] at H; exact H
             clear H
             have H := H1
             clear H1
             by_cases c64 : x8_1.length < 4398046511104
             ·rw [if_pos c64] at H
              have LMc64 := Aside0.mk c64
              clear c64
              obtain ⟨y406, hy406⟩ : ∃ y_ : List (S41), y_ = (x8_1 ++ [(⟨(⟨t388, t389⟩ : S39), t390⟩ : S41)]) := ⟨_, rfl⟩
              replace H : (edit_Tidy.l0 kj18 a0 y406 l1 (l1.length : Int) (wrap64 (x23_1 + 1))) = some (r1, r2) := by first | (rw [hy406]; with_reducible exact H) | (have H2_ := (Option.bind_some _ _).symm.trans H; rw [hy406]; with_reducible exact H2_) | (have H2_ := (Option.bind_some _ _).symm.trans H; with_reducible exact H2_) | with_reducible exact H | (rw [hy406]; exact H) | exact H
              have Ny406 := Aside0.mk hy406
              clear hy406
              have H' := Aside0.mk H
              clear H
              have hcz65_0 : wc.cell? ⟨gb387, 0, none⟩ = some (.int .i64 t388) := (blk_cell BK387.out 0).trans rfl
              have hcz65_1 : wc.cell? ⟨gb387, 1, none⟩ = some (.int .i64 t389) := (blk_cell BK387.out 1).trans rfl
              have hcz65_2 : wc.cell? ⟨gb387, 2, none⟩ = some (.string t390) := (blk_cell BK387.out 2).trans rfl
              have hfz65_0 := blk_frozen BK387.out 0
              have hfz65_1 := blk_frozen BK387.out 1
              have hfz65_2 := blk_frozen BK387.out 2
              go_wp2_with (first | ((with_reducible refine gate_builtin (b := .append) (xs := #[.tmp 98, .tmp 100]) rfl ?_); at_builtin; refine Kd.R_append k41 (w0 := w) w.heap.size rfl (.tmp 98) (.tmp 100) 23 41 (.agg #[(.int .i64 0), (.int .i64 0), (.string ⟨#[]⟩)]) 32 rfl Try.underlying23 info41 rfl (by decide) (by omega) (.slice Ao20 x8_1.length co20) x8_1 (⟨(⟨t388, t389⟩ : S39), t390⟩ : S41) [.int .i64 t388, .int .i64 t389, .string t390] (fun k_ => k_ ≠ gb387) (fun _ => False) rfl rfl ?aP (fun _ hk => hk.elim) ?aF ?aO ?aB ?aS ?aL ?_; (case aP => exact k41_mkM _ _ _ (⟨(⟨t388, t389⟩ : S39), t390⟩ : S41)); (case aB => exact (pxb HB)); (case aF => exact (fun k_ hk => Kd.freshB (g := gb387) (o := .cells #[.int .i64 t388, .int .i64 t389, .string t390] 41 (0, 0)) (pxq BK387) k_ hk)); (case aO => exact (pxr HO_8)); (case aS => exact (below_size (pxb HB))); (case aL => have := LMc64.out; omega); intro v407 w66 ho hb hg hat; rw [← Ny406.out] at ho; have n0_ := Aside0.mk (blk_grown (g := gb387) (o := .cells #[.int .i64 t388, .int .i64 t389, .string t390] 41 (0, 0)) (pxq BK387) hg (Kd.R_away HO_8.out (fun _ hk => hk))); have n1_ := Aside0.mk (hb); have n2_ := Aside0.mk (ho); clear BK387; clear HB; clear HO_8; have BK387 := n0_; have HB := n1_; have HO408 := n2_; clear n0_ n1_ n2_; clear ho hb hg hat))
              go_roundg kj18
              case measure => have := HK1.out; have := HJ9.out; have := HJ18.out; omega
              case rel => exact ⟨(y406), (wrap64 (x23_1 + 1)), (by first | rfl | (simp; done) | (simp [*]; done)), H', ⟨by have := HK1.out; have := HJ9.out; have := HJ18.out; omega⟩, ⟨by (with_reducible repeat (first | apply Kd.R_alloc | apply Kd.R_drewN | apply Kd.R_drew)); exact Kd.R_mono HO408.out (fun _ hk => trivial)⟩, ⟨pxb HB⟩⟩
             ·rw [if_neg c64] at H
              exact absurd H (by simp)
      ·rw [if_neg c8] at H
       exact absurd H (by simp)
     ·rw [if_neg c7] at H
      exact absurd H (by simp)
    ·rw [if_neg c6] at H
     have c6b0 : decide (x23_1 < (l1.length : Int)) = false := decide_eq_false c6
     clear c6
     simp only [Option.some.injEq, Prod.mk.injEq] at H
     obtain ⟨rfl, rfl⟩ := H
     go_wp2
     go_ret2
     exact ⟨_, by first | rfl | (simp [errW_none, errW_some] <;> rfl) | (simp [*, errW_none, errW_some] <;> rfl) | (simp [*, pxbeq, pxbne, errW_none, errW_some]; done), pxr HO_8, pxb HB⟩
 ·rw [if_neg c4] at H
  have c4b0 : (t385 == 0) = false := beq_eq_false_iff_ne.mpr c4
  have c4b1 : (t385 != 0) = true := bne_iff_ne.mpr c4
  simp only [Option.some.injEq, Prod.mk.injEq] at H
  obtain ⟨rfl, rfl⟩ := H
  go_enter Try.func20, Try.ntmps20
  go_wp2_with (first | ((with_reducible refine gate_callee (f := 22) rfl ?_); refine goesL_ (some 15) rfl rfl Try.func22 (by kernel_rfl) rfl #[.string a0, .slice A1 l1.length c1] rfl (by (try simp only [List.map_toArray, List.map_cons, List.map_nil]); first | done | rfl | (simp only [List.length_drop, List.length_take]; rfl)) ?_; (with_reducible refine (edit_Apply.calls k a0 _ _ l1 t384 t385 _ ?side1 ?side2 A3.out).mono ?_); (case side1 => repeat (first | exact HR1.out | (with_reducible refine Kd.C_alloc ?_ _) | (with_reducible refine Kd.C_drewN ?_ _) | (with_reducible refine Kd.C_drew ?_))); (case side2 => exact HC1.out); rintro e w67 ⟨rfl, hb⟩; refine ⟨_, rfl, ?_⟩; replace HB := pxs HB hb; (try clear hb); (try clear hb2); (try clear hk); (try clear hi)))
  go_ret2
  exact ⟨_, by first | rfl | (simp [errW_none, errW_some] <;> rfl) | (simp [*, errW_none, errW_some] <;> rfl) | (simp [*, pxbeq, pxbne, errW_none, errW_some]; done), by first | exact Kd.R_nil _ _ _ _ _ | exact Kd.N_nil _ _ _ _ _ | exact Kd.V_nil _ _ _ _ _ | exact Kd.Q_nil _ _ _ _ _ | exact Kd.S_nil _ _ _ _ _, pxb HB⟩

end Go.Proofs.Ytoljmjhmieaggaa.X
