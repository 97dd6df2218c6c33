/- What the program's functions answer, as Lean functions, and that each call does just that; no condition. Written by a program (px.py) out of the translation. -/
import Derived.Test.YtfnemjejfccecaaX0
import Derived.Test.YtfnemjejfccecaaX31
import Derived.Test.YtfnemjejfccecaaX45
namespace Go.Proofs.Ytfnemjejfccecaa.X
open Go.RowKit Go.Proofs.YtfnemjejfccecaaW.PrintWords Go.Proofs.YtfnemjejfccecaaW.PrintLast Go.Proofs.YtfnemjejfccecaaW.PrintMore
attribute [local go_sem] max2_int min2_int max_two min_two max_three min_three max_four min_four   -- for this text's walks alone
set_option linter.unusedVariables false
set_option linter.unusedSimpArgs false

/-! ### edit_Tidy: function 37 -/
mutual
def edit_Tidy.l0 : Nat → ByteArray → List (S60) → List (S60) → Int → Int → Option ((List (S60)) × Int)
 | 0, _, _, _, _, _ => none
 | k + 1, x0, x8, x21, x22, x23 => if x23 < x22 then (if 0 ≤ x23 then (if x23 < (x21.length : Int) then ((edit_trim.f k x0 ((rd_T60 x21 x23).f0.f0) ((rd_T60 x21 x23).f0.f1) ((rd_T60 x21 x23).f1)).bind fun bt387 => (if bt387.1 = bt387.2.1 then (edit_Tidy.j1 k x0 x8 x21 x22 x23 (bt387.2.2.toList == ([] : List UInt8)) bt387.1 bt387.2.1 bt387.2.2) else (edit_Tidy.j1 k x0 x8 x21 x22 x23 false bt387.1 bt387.2.1 bt387.2.2))) else (none)) else (none)) else (some (x8, 0))
def edit_Tidy.j1 : Nat → ByteArray → List (S60) → List (S60) → Int → Int → Bool → Int → Int → ByteArray → Option ((List (S60)) × Int)
 | 0, _, _, _, _, _, _, _, _, _ => none
 | k + 1, x0, x8, x21, x22, x23, x41, x387000, x387001, x387002 => if x41 = true then (edit_Tidy.l0 k x0 x8 x21 x22 (wrap64 (x23 + 1))) else (if (x8.length : Int) > 0 then (if 0 ≤ (wrap64 ((x8.length : Int) - 1)) then (if (wrap64 ((x8.length : Int) - 1)) < (x8.length : Int) then (edit_Tidy.j2 k x0 x8 (x8.length : Int) x21 x22 x23 (((rd_T60 x8 (wrap64 ((x8.length : Int) - 1))).f0.f1) == x387000) x387000 x387001 x387002) else (none)) else (none)) else (edit_Tidy.j2 k x0 x8 (x8.length : Int) x21 x22 x23 false x387000 x387001 x387002))
def edit_Tidy.j2 : Nat → ByteArray → List (S60) → Int → List (S60) → Int → Int → Bool → Int → Int → ByteArray → Option ((List (S60)) × Int)
 | 0, _, _, _, _, _, _, _, _, _, _ => none
 | k + 1, x0, x8, x11, x21, x22, x23, x58, x387000, x387001, x387002 => if x58 = true then (if 0 ≤ (wrap64 (x11 - 1)) then (if (wrap64 (x11 - 1)) < (x8.length : Int) then (if ((rd_T60 x8 (wrap64 (x11 - 1))).f1).size + x387002.size ≤ 9223372036854775807 then ((edit_trim.f k x0 ((rd_T60 x8 (wrap64 (x11 - 1))).f0.f0) x387001 (((rd_T60 x8 (wrap64 (x11 - 1))).f1) ++ x387002)).bind fun bt393 => (if (wrap64 (x11 - 1)) ≤ (x8.length : Int) then ((some (x8.take ((wrap64 (x11 - 1)) : Int).toNat : List (S60))).bind fun y396 => (if bt393.1 = bt393.2.1 then (if bt393.2.2.toList = ([] : List UInt8) then (edit_Tidy.l0 k x0 y396 x21 x22 (wrap64 (x23 + 1))) else (if y396.length < 4398046511104 then (edit_Tidy.l0 k x0 (y396 ++ [(⟨(⟨bt393.1, bt393.2.1⟩ : S24), bt393.2.2⟩ : S60)]) x21 x22 (wrap64 (x23 + 1))) else (none))) else (if y396.length < 4398046511104 then (edit_Tidy.l0 k x0 (y396 ++ [(⟨(⟨bt393.1, bt393.2.1⟩ : S24), bt393.2.2⟩ : S60)]) x21 x22 (wrap64 (x23 + 1))) else (none)))) else (none))) else (none)) else (none)) else (none)) else (if x8.length < 4398046511104 then (edit_Tidy.l0 k x0 (x8 ++ [(⟨(⟨x387000, x387001⟩ : S24), x387002⟩ : S60)]) x21 x22 (wrap64 (x23 + 1))) else (none))
end
def edit_Tidy.f (k : Nat) (a0 : ByteArray) (l1 : List (S60)) : Option ((List (S60)) × Int) := (edit_Apply.f k a0 l1).bind fun bt383 => (if bt383.2 = 0 then (edit_Tidy.l0 k a0 ([] : List (S60)) l1 (l1.length : Int) 0) else (some (([] : List (S60)), bt383.2)))
theorem edit_Tidy.mono_l : ∀ k, (∀ y0 y1 y2 y3 y4, LeO (edit_Tidy.l0 k y0 y1 y2 y3 y4) (edit_Tidy.l0 (k + 1) y0 y1 y2 y3 y4)) ∧ (∀ y0 y1 y2 y3 y4 y5 y6 y7 y8, LeO (edit_Tidy.j1 k y0 y1 y2 y3 y4 y5 y6 y7 y8) (edit_Tidy.j1 (k + 1) y0 y1 y2 y3 y4 y5 y6 y7 y8)) ∧ (∀ y0 y1 y2 y3 y4 y5 y6 y7 y8 y9, LeO (edit_Tidy.j2 k y0 y1 y2 y3 y4 y5 y6 y7 y8 y9) (edit_Tidy.j2 (k + 1) y0 y1 y2 y3 y4 y5 y6 y7 y8 y9))
 | 0 => ⟨fun _ _ _ _ _ r h => by simp [edit_Tidy.l0] at h, fun _ _ _ _ _ _ _ _ _ r h => by simp [edit_Tidy.j1] at h, fun _ _ _ _ _ _ _ _ _ _ r h => by simp [edit_Tidy.j2] at h⟩
 | k + 1 => by
  obtain ⟨ih0, ih1, ih2⟩ := edit_Tidy.mono_l k
  refine ⟨?_, ?_, ?_⟩
  ·intro y0 y1 y2 y3 y4
   unfold edit_Tidy.l0
   repeat' first
   | (with_reducible exact ih0 _ _ _ _ _)
   | (with_reducible exact ih1 _ _ _ _ _ _ _ _ _)
   | (with_reducible exact ih2 _ _ _ _ _ _ _ _ _ _)
   | (with_reducible exact edit_Apply.mono _ _ _)
   | (with_reducible exact edit_trim.mono _ _ _ _ _)
   | (with_reducible exact LeO.refl _)
   | (with_reducible exact LeO.none _)
   | (with_reducible refine LeO.ite ?_ ?_)
   | (with_reducible refine LeO.bind ?_ (fun _ => ?_))
   | exact ih0 _ _ _ _ _
   | exact ih1 _ _ _ _ _ _ _ _ _
   | exact ih2 _ _ _ _ _ _ _ _ _ _
   | exact edit_Apply.mono _ _ _
   | exact edit_trim.mono _ _ _ _ _
   | exact LeO.none _
   | refine LeO.ite ?_ ?_
   | refine LeO.bind ?_ (fun _ => ?_)
  ·intro y0 y1 y2 y3 y4 y5 y6 y7 y8
   unfold edit_Tidy.j1
   repeat' first
   | (with_reducible exact ih0 _ _ _ _ _)
   | (with_reducible exact ih1 _ _ _ _ _ _ _ _ _)
   | (with_reducible exact ih2 _ _ _ _ _ _ _ _ _ _)
   | (with_reducible exact edit_Apply.mono _ _ _)
   | (with_reducible exact edit_trim.mono _ _ _ _ _)
   | (with_reducible exact LeO.refl _)
   | (with_reducible exact LeO.none _)
   | (with_reducible refine LeO.ite ?_ ?_)
   | (with_reducible refine LeO.bind ?_ (fun _ => ?_))
   | exact ih0 _ _ _ _ _
   | exact ih1 _ _ _ _ _ _ _ _ _
   | exact ih2 _ _ _ _ _ _ _ _ _ _
   | exact edit_Apply.mono _ _ _
   | exact edit_trim.mono _ _ _ _ _
   | exact LeO.none _
   | refine LeO.ite ?_ ?_
   | refine LeO.bind ?_ (fun _ => ?_)
  ·intro y0 y1 y2 y3 y4 y5 y6 y7 y8 y9
   unfold edit_Tidy.j2
   repeat' first
   | (with_reducible exact ih0 _ _ _ _ _)
   | (with_reducible exact ih1 _ _ _ _ _ _ _ _ _)
   | (with_reducible exact ih2 _ _ _ _ _ _ _ _ _ _)
   | (with_reducible exact edit_Apply.mono _ _ _)
   | (with_reducible exact edit_trim.mono _ _ _ _ _)
   | (with_reducible exact LeO.refl _)
   | (with_reducible exact LeO.none _)
   | (with_reducible refine LeO.ite ?_ ?_)
   | (with_reducible refine LeO.bind ?_ (fun _ => ?_))
   | exact ih0 _ _ _ _ _
   | exact ih1 _ _ _ _ _ _ _ _ _
   | exact ih2 _ _ _ _ _ _ _ _ _ _
   | exact edit_Apply.mono _ _ _
   | exact edit_trim.mono _ _ _ _ _
   | exact LeO.none _
   | refine LeO.ite ?_ ?_
   | refine LeO.bind ?_ (fun _ => ?_)
theorem edit_Tidy.mono : ∀ a0 a1 k, LeO (edit_Tidy.f k a0 a1) (edit_Tidy.f (k + 1) a0 a1) := by
 intro a0 a1 k
 obtain ⟨ih0, ih1, ih2⟩ := edit_Tidy.mono_l k
 unfold edit_Tidy.f
 repeat' first
   | (with_reducible exact ih0 _ _ _ _ _)
   | (with_reducible exact ih1 _ _ _ _ _ _ _ _ _)
   | (with_reducible exact ih2 _ _ _ _ _ _ _ _ _ _)
   | (with_reducible exact edit_Apply.mono _ _ _)
   | (with_reducible exact edit_trim.mono _ _ _ _ _)
   | (with_reducible exact LeO.refl _)
   | (with_reducible exact LeO.none _)
   | (with_reducible refine LeO.ite ?_ ?_)
   | (with_reducible refine LeO.bind ?_ (fun _ => ?_))
   | exact ih0 _ _ _ _ _
   | exact ih1 _ _ _ _ _ _ _ _ _
   | exact ih2 _ _ _ _ _ _ _ _ _ _
   | exact edit_Apply.mono _ _ _
   | exact edit_trim.mono _ _ _ _ _
   | exact LeO.none _
   | refine LeO.ite ?_ ?_
   | refine LeO.bind ?_ (fun _ => ?_)
def edit_Tidy.T11 : Bool × List (List Nat × List Nat) := (true, [([], []), ([0], [0]), ([1], [1]), ([2], [2]), ([2], [2]), ([4, 2], [2, 4]), ([3, 5, 2], [2, 3, 5]), ([6, 2], [2, 6]), ([7, 2], [2, 7]), ([8, 2], [2, 8]), ([2], [2]), ([10, 2], [2, 10]), ([11, 2], [2, 11]), ([9, 12, 2], [2, 9, 12]), ([2, 13], [2, 13])])
def edit_Tidy.B11 : List Nat := [0, 1, 3, 7, 7, 23, 63, 127, 255, 511, 7, 1031, 3079, 8191, 16383]
theorem edit_Tidy.tab11 : rtab .any (opsOf Try.f37 11) = edit_Tidy.T11 := by kernel_rfl
theorem edit_Tidy.bits11 : waitsOk edit_Tidy.T11.2 edit_Tidy.B11 = true := by kernel_rfl
def edit_Tidy.T12 : Bool × List (List Nat × List Nat) := (true, [([], []), ([], []), ([], []), ([2], [2]), ([1, 3], [1, 3]), ([4], [4]), ([5], [5]), ([6], [6]), ([], []), ([8], [8]), ([9], [9]), ([7, 10], [7, 10]), ([], []), ([], []), ([13], [13]), ([12, 14], [12, 14]), ([15], [15]), ([16], [16]), ([], []), ([18], [18]), ([17, 19], [17, 19]), ([11, 20], [11, 20]), ([0, 21], [0, 21]), ([22, 22, 0, 1, 2, 3, 4, 5, 6, 7, 8, 9, 10, 11, 12, 13, 14, 15, 16, 17, 18, 19, 20, 21, 22], [22])])
def edit_Tidy.B12 : List Nat := [0, 0, 0, 4, 14, 30, 62, 126, 0, 256, 768, 2046, 0, 0, 8192, 28672, 61440, 126976, 0, 262144, 1044480, 2097150, 4194303, 8388607]
theorem edit_Tidy.tab12 : rtab .any (opsOf Try.f37 12) = edit_Tidy.T12 := by kernel_rfl
theorem edit_Tidy.bits12 : waitsOk edit_Tidy.T12.2 edit_Tidy.B12 = true := by kernel_rfl
set_option maxHeartbeats 8000000 in
set_option maxRecDepth 100000 in
theorem edit_Tidy.calls (k : Nat) (a0 : ByteArray) (A1 : Option Addr) (c1 : Nat) (l1 : List (S60)) (r1 : List (S60)) (r2 : Int) (w : World) (hr1 : Kd.C k60 w A1 l1.length l1) (hc1 : l1.length ≤ c1) (h : edit_Tidy.f k a0 l1 = some (r1, r2)) :
  Calls Try.prog 37 #[.string a0, .slice A1 l1.length c1] w fun e w' => ∃ v0_ : Value, e = .returned (.tuple #[v0_, .int .i64 r2]) ∧ Kd.R k60 60 w' w.heap.size (fun _ => True) v0_ r1 ∧ Below w.heap.size w w' := by
 have hu60 := Try.underlying60
 have hu24 := Try.underlying24
 have HR1 := Aside0.mk hr1
 have HC1 := Aside0.mk hc1
 clear hr1 hc1
 have HB := Aside0.mk (Below.refl w.heap.size w)
 have H : ((edit_Apply.f k a0 l1).bind fun bt383 => (if bt383.2 = 0 then (edit_Tidy.l0 k a0 ([] : List (S60)) l1 (l1.length : Int) 0) else (some (([] : List (S60)), bt383.2)))) = some (r1, r2) := h
 clear h
 replace H := Option.bind_eq_some_iff.mp H
 obtain ⟨⟨t383, t384⟩, A30, H⟩ := H
 replace H : (if t384 = 0 then (edit_Tidy.l0 k a0 ([] : List (S60)) l1 (l1.length : Int) 0) else (some (([] : List (S60)), t384))) = some (r1, r2) := H
 have A3 := Aside0.mk A30
 clear A30
 by_cases c4 : t384 = 0
 ·rw [if_pos c4] at H
  have c4b0 : (t384 == 0) = true := beq_iff_eq.mpr c4
  have c4b1 : (t384 != 0) = false := bne_eq_false_iff_eq.mpr c4
  clear c4
  have H' := Aside0.mk H
  clear H
  go_enter Try.func37, Try.ntmps37
  go_wp2_with (first | ((with_reducible refine gate_callee (f := 31) rfl ?_); refine goesL_ (some 15) rfl rfl Try.func31 (by kernel_rfl) rfl #[.string a0, .slice A1 l1.length c1] rfl (by (try simp only [List.map_toArray, List.map_cons, List.map_nil]); first | done | rfl | (simp only [List.length_drop, List.length_take]; rfl)) ?_; (with_reducible refine (edit_Apply.calls k a0 _ _ l1 t383 t384 _ ?side1 ?side2 A3.out).mono ?_); (case side1 => repeat (first | exact HR1.out | (with_reducible refine Kd.C_alloc ?_ _) | (with_reducible refine Kd.C_drewN ?_ _) | (with_reducible refine Kd.C_drew ?_))); (case side2 => exact HC1.out); rintro e w5 ⟨rfl, hb⟩; refine ⟨_, rfl, ?_⟩; have n0_ := pxs HB hb; clear HB; have HB := n0_; clear n0_; (try clear hb); (try clear hb2); (try clear hk); (try clear hi)))
  go_loopg [8, 23] k (fun kq v8 v23 w' => ∃ (x8_1 : List (S60)) (x23_1 : Int), v23 = .int .i64 x23_1 ∧ Aside0 (edit_Tidy.l0 kq a0 x8_1 l1 (l1.length : Int) x23_1 = some (r1, r2)) ∧ Aside0 (kq ≤ k) ∧ Aside0 (Kd.R k60 60 w' w.heap.size (fun _ => True) v8 x8_1) ∧ Aside0 (Below w.heap.size w w'))
  case atStart => exact ⟨(([] : List (S60))), (0), (by first | rfl | (simp; done) | (simp [*]; done)), H', ⟨Nat.le_refl _⟩, ⟨by first | exact Kd.R_nil _ _ _ _ _ | exact Kd.N_nil _ _ _ _ _ | exact Kd.V_nil _ _ _ _ _ | exact Kd.Q_nil _ _ _ _ _ | exact Kd.S_nil _ _ _ _ _⟩, ⟨pxb HB⟩⟩
  case round =>
   clear H'
   try clear c1
   try clear p2
   try clear c3
   try clear c4
   try clear c4b0
   try clear c4b1
   obtain ⟨x8_1, x23_1, rfl, HA, HK1, HO_8, HB⟩ := hrel
   cases gk with
   | zero => exact absurd HA.out (by simp [edit_Tidy.l0])
   | succ k1 =>
    have H := HA.out
    clear HA
    simp only [edit_Tidy.l0] at H
    by_cases c6 : x23_1 < (l1.length : Int)
    ·rw [if_pos c6] at H
     have c6b0 : decide (x23_1 < (l1.length : Int)) = true := decide_eq_true c6
     clear c6
     by_cases c7 : 0 ≤ x23_1
     ·rw [if_pos c7] at H
      have c7b0 : decide (0 ≤ x23_1) = true := decide_eq_true c7
      clear c7
      by_cases c8 : x23_1 < (l1.length : Int)
      ·rw [if_pos c8] at H
       have c8b0 : decide (x23_1 < (l1.length : Int)) = true := decide_eq_true c8
       clear c8
       replace H := Option.bind_eq_some_iff.mp H
       obtain ⟨⟨t387, t388, t389⟩, A90, H⟩ := H
       replace H : (if t387 = t388 then (edit_Tidy.j1 k1 a0 x8_1 l1 (l1.length : Int) x23_1 (t389.toList == ([] : List UInt8)) t387 t388 t389) else (edit_Tidy.j1 k1 a0 x8_1 l1 (l1.length : Int) x23_1 false t387 t388 t389)) = some (r1, r2) := H
       have A9 := Aside0.mk A90
       clear A90
       have HC10 := Aside0.mk H
       clear H
       have p385 : 0 ≤ (x23_1 : Int) := of_decide_eq_true (by first | (with_reducible assumption) | assumption)
       have q385 : x23_1 < (l1.length : Int) := of_decide_eq_true (by first | (with_reducible assumption) | assumption)
       obtain ⟨ad385, e385, hx385_0, hx385_1, hx385_2⟩ := at_T60 HR1.out x23_1 p385 q385
       cases e385
       replace hx385_0 := (HB.out.cell (World.block_lt_of_cell? w _ hx385_0)).trans hx385_0
       replace hx385_1 := (HB.out.cell (World.block_lt_of_cell? w _ hx385_1)).trans hx385_1
       replace hx385_2 := (HB.out.cell (World.block_lt_of_cell? w _ hx385_2)).trans hx385_2
       replace p385 := eq_true p385
       replace q385 := eq_true q385
       go_upto_region 9 with (first | ((with_reducible refine gate_dst (N := 10) rfl ?_); refine box_event ?hg (N := 10) ?hd (cs := #[.int .i64 0, .int .i64 0, .string (⟨#[]⟩ : ByteArray)]) (t := 60) ?hr ?_; (case hd => rfl); (case hg => rfl); (case hr => first | (go_simp; done) | (go_simp; rfl)); intro gb386 hg w11 hbox hb; have n0_ := Aside0.mk (Kd.R_below (Kd.R_elderB (pxr HO_8) gb386 (Nat.le_of_eq hg.symm)) hb); have n1_ := pxs HB hb; have n2_ := Aside0.mk (hbox); have n3_ := Aside0.mk ((by rw [hg]; exact (below_size (pxb HB)) : w.heap.size ≤ gb386)); have n4_ := Aside0.mk ((by rw [hg]; exact (below_size (pxb HB)) : w.heap.size ≤ gb386)); clear HO_8; clear HB; have HO_8 := n0_; have HB := n1_; have BK386 := n2_; have GW386 := n3_; have GE386 := n4_; clear n0_ n1_ n2_ n3_ n4_; clear hb hbox hg; have hcz12_0 : w11.cell? ⟨gb386, 0, none⟩ = some (.int .i64 0) := (blk_cell BK386.out 0).trans rfl; have hcz12_1 : w11.cell? ⟨gb386, 1, none⟩ = some (.int .i64 0) := (blk_cell BK386.out 1).trans rfl; have hcz12_2 : w11.cell? ⟨gb386, 2, none⟩ = some (.string (⟨#[]⟩ : ByteArray)) := (blk_cell BK386.out 2).trans rfl; have hfz12_0 := blk_frozen BK386.out 0; have hfz12_1 := blk_frozen BK386.out 1; have hfz12_2 := blk_frozen BK386.out 2) | ((with_reducible refine gate_callee (f := 45) rfl ?_); refine goesL_ (some 29) rfl rfl Try.func45 (by kernel_rfl) rfl #[.string a0, .agg #[.int .i64 ((rd_T60 l1 x23_1).f0.f0), .int .i64 ((rd_T60 l1 x23_1).f0.f1), .string ((rd_T60 l1 x23_1).f1)]] rfl (by (try simp only [List.map_toArray, List.map_cons, List.map_nil]); first | done | rfl | (simp only [List.length_drop, List.length_take]; rfl)) ?_; (with_reducible refine (edit_trim.calls k1 a0 ((rd_T60 l1 x23_1).f0.f0) ((rd_T60 l1 x23_1).f0.f1) ((rd_T60 l1 x23_1).f1) t387 t388 t389 _ A9.out).mono ?_); rintro e w13 ⟨rfl, hb⟩; refine ⟨_, rfl, ?_⟩; have n0_ := Aside0.mk (Kd.R_below (by (with_reducible repeat (first | apply Kd.R_alloc | apply Kd.R_drewN | apply Kd.R_drew)); exact (Kd.R_mono (Kd.R_far (p := ⟨gb386, 2, none⟩) (Kd.R_far (p := ⟨gb386, 1, none⟩) (Kd.R_far (p := ⟨gb386, 0, none⟩) (Kd.R_mono HO_8.out (fun k_ hk => (⟨hk, hk.2⟩ : _ ∧ k_ ≠ gb386))) (fun _ hk => hk.2) (.int .i64 ((rd_T60 l1 x23_1).f0.f0))) (fun _ hk => hk.2) (.int .i64 ((rd_T60 l1 x23_1).f0.f1))) (fun _ hk => hk.2) (.string ((rd_T60 l1 x23_1).f1))) (fun _ h_ => h_.1))) hb); have n1_ := Aside0.mk (blk_below (g := gb386) (o := .cells #[.int .i64 ((rd_T60 l1 x23_1).f0.f0), .int .i64 ((rd_T60 l1 x23_1).f0.f1), .string ((rd_T60 l1 x23_1).f1)] 60 (0, 0)) (by (with_reducible repeat (first | refine blk_drewN ?_ _ | refine blk_drew ?_ | refine blk_alloc ?_ _)); refine blk_put (cs := #[.int .i64 ((rd_T60 l1 x23_1).f0.f0), .int .i64 ((rd_T60 l1 x23_1).f0.f1), .string (⟨#[]⟩ : ByteArray)]) ?_ 2 _ rfl; (with_reducible repeat (first | refine blk_drewN ?_ _ | refine blk_drew ?_ | refine blk_alloc ?_ _)); refine blk_put (cs := #[.int .i64 ((rd_T60 l1 x23_1).f0.f0), .int .i64 0, .string (⟨#[]⟩ : ByteArray)]) ?_ 1 _ rfl; (with_reducible repeat (first | refine blk_drewN ?_ _ | refine blk_drew ?_ | refine blk_alloc ?_ _)); refine blk_put (cs := #[.int .i64 0, .int .i64 0, .string (⟨#[]⟩ : ByteArray)]) ?_ 0 _ rfl; (with_reducible repeat (first | refine blk_drewN ?_ _ | refine blk_drew ?_ | refine blk_alloc ?_ _)); exact BK386.out) hb); have n2_ := pxs HB hb; clear HO_8; clear BK386; clear HB; have HO_8 := n0_; have BK386 := n1_; have HB := n2_; clear n0_ n1_ n2_; (try clear hb); (try clear hb2); (try clear hk); (try clear hi); have hcz14_0 : w13.cell? ⟨gb386, 0, none⟩ = some (.int .i64 ((rd_T60 l1 x23_1).f0.f0)) := (blk_cell BK386.out 0).trans rfl; have hcz14_1 : w13.cell? ⟨gb386, 1, none⟩ = some (.int .i64 ((rd_T60 l1 x23_1).f0.f1)) := (blk_cell BK386.out 1).trans rfl; have hcz14_2 : w13.cell? ⟨gb386, 2, none⟩ = some (.string ((rd_T60 l1 x23_1).f1)) := (blk_cell BK386.out 2).trans rfl; have hfz14_0 := blk_frozen BK386.out 0; have hfz14_1 := blk_frozen BK386.out 1; have hfz14_2 := blk_frozen BK386.out 2))
       (try simp only [Act.put, List.setIfInBounds_toArray, List.set_cons_zero, List.set_cons_succ])
       go_cut [41] (fun v41 wc => ∃ (kq : Nat) (x41_9 : Bool), v41 = .bool x41_9 ∧ Aside0 (edit_Tidy.j1 kq a0 x8_1 l1 (l1.length : Int) x23_1 x41_9 t387 t388 t389 = some (r1, r2)) ∧ Aside0 (kq ≤ k1) ∧ Aside0 (Kd.R k60 60 wc w.heap.size (fun k_ => k_ ≠ gb386) u8 x8_1) ∧ Aside0 (wc.heap[gb386]? = some (.cells #[.int .i64 t387, .int .i64 t388, .string t389] 60 (0, 0))) ∧ Aside0 (Below w.heap.size w wc))
       case first =>
        have H := HC10.out
        clear HC10
        by_cases c15 : t387 = t388
        ·rw [if_pos c15] at H
         have c15b0 : (t387 == t388) = true := beq_iff_eq.mpr c15
         have c15b1 : (t387 != t388) = false := bne_eq_false_iff_eq.mpr c15
         clear c15
         (first | rw [c15b0] | (simp only [i64_w, i32_w]; rw [c15b0]) | skip)
         have H' := Aside0.mk H
         clear H
         have hcz16_0 : w13.cell? ⟨gb386, 0, none⟩ = some (.int .i64 ((rd_T60 l1 x23_1).f0.f0)) := (blk_cell BK386.out 0).trans rfl
         have hcz16_1 : w13.cell? ⟨gb386, 1, none⟩ = some (.int .i64 ((rd_T60 l1 x23_1).f0.f1)) := (blk_cell BK386.out 1).trans rfl
         have hcz16_2 : w13.cell? ⟨gb386, 2, none⟩ = some (.string ((rd_T60 l1 x23_1).f1)) := (blk_cell BK386.out 2).trans rfl
         have hfz16_0 := blk_frozen BK386.out 0
         have hfz16_1 := blk_frozen BK386.out 1
         have hfz16_2 := blk_frozen BK386.out 2
         go_wp2
         go_meet
         case rel => exact ⟨_, ((t389.toList == ([] : List UInt8))), (by first | rfl | (simp; done) | (simp [*]; done)), H', ⟨by have := HK1.out; first | omega | exact Nat.le_refl _⟩, ⟨by (with_reducible repeat (first | apply Kd.R_alloc | apply Kd.R_drewN | apply Kd.R_drew)); exact Kd.R_mono (Kd.R_far (p := ⟨gb386, 2, none⟩) (Kd.R_far (p := ⟨gb386, 1, none⟩) (Kd.R_far (p := ⟨gb386, 0, none⟩) (Kd.R_mono HO_8.out (fun k_ hk => (⟨hk, hk.2⟩ : _ ∧ k_ ≠ gb386))) (fun _ hk => hk.2) (.int .i64 t387)) (fun _ hk => hk.2) (.int .i64 t388)) (fun _ hk => hk.2) (.string t389)) (fun _ hk => hk.1.2)⟩, ⟨by (with_reducible repeat (first | refine blk_drewN ?_ _ | refine blk_drew ?_ | refine blk_alloc ?_ _)); refine blk_put (cs := #[.int .i64 t387, .int .i64 t388, .string ((rd_T60 l1 x23_1).f1)]) ?_ 2 _ rfl; (with_reducible repeat (first | refine blk_drewN ?_ _ | refine blk_drew ?_ | refine blk_alloc ?_ _)); refine blk_put (cs := #[.int .i64 t387, .int .i64 ((rd_T60 l1 x23_1).f0.f1), .string ((rd_T60 l1 x23_1).f1)]) ?_ 1 _ rfl; (with_reducible repeat (first | refine blk_drewN ?_ _ | refine blk_drew ?_ | refine blk_alloc ?_ _)); refine blk_put (cs := #[.int .i64 ((rd_T60 l1 x23_1).f0.f0), .int .i64 ((rd_T60 l1 x23_1).f0.f1), .string ((rd_T60 l1 x23_1).f1)]) ?_ 0 _ rfl; (with_reducible repeat (first | refine blk_drewN ?_ _ | refine blk_drew ?_ | refine blk_alloc ?_ _)); exact BK386.out⟩, ⟨pxb HB⟩⟩
        ·rw [if_neg c15] at H
         have c15b0 : (t387 == t388) = false := beq_eq_false_iff_ne.mpr c15
         have c15b1 : (t387 != t388) = true := bne_iff_ne.mpr c15
         (first | rw [c15b0] | (simp only [i64_w, i32_w]; rw [c15b0]) | skip)
         have H' := Aside0.mk H
         clear H
         have hcz17_0 : w13.cell? ⟨gb386, 0, none⟩ = some (.int .i64 ((rd_T60 l1 x23_1).f0.f0)) := (blk_cell BK386.out 0).trans rfl
         have hcz17_1 : w13.cell? ⟨gb386, 1, none⟩ = some (.int .i64 ((rd_T60 l1 x23_1).f0.f1)) := (blk_cell BK386.out 1).trans rfl
         have hcz17_2 : w13.cell? ⟨gb386, 2, none⟩ = some (.string ((rd_T60 l1 x23_1).f1)) := (blk_cell BK386.out 2).trans rfl
         have hfz17_0 := blk_frozen BK386.out 0
         have hfz17_1 := blk_frozen BK386.out 1
         have hfz17_2 := blk_frozen BK386.out 2
         go_wp2
         go_meet
         case rel => exact ⟨_, (false), (by first | rfl | (simp; done) | (simp [*]; done)), H', ⟨by have := HK1.out; first | omega | exact Nat.le_refl _⟩, ⟨by (with_reducible repeat (first | apply Kd.R_alloc | apply Kd.R_drewN | apply Kd.R_drew)); exact Kd.R_mono (Kd.R_far (p := ⟨gb386, 2, none⟩) (Kd.R_far (p := ⟨gb386, 1, none⟩) (Kd.R_far (p := ⟨gb386, 0, none⟩) (Kd.R_mono HO_8.out (fun k_ hk => (⟨hk, hk.2⟩ : _ ∧ k_ ≠ gb386))) (fun _ hk => hk.2) (.int .i64 t387)) (fun _ hk => hk.2) (.int .i64 t388)) (fun _ hk => hk.2) (.string t389)) (fun _ hk => hk.1.2)⟩, ⟨by (with_reducible repeat (first | refine blk_drewN ?_ _ | refine blk_drew ?_ | refine blk_alloc ?_ _)); refine blk_put (cs := #[.int .i64 t387, .int .i64 t388, .string ((rd_T60 l1 x23_1).f1)]) ?_ 2 _ rfl; (with_reducible repeat (first | refine blk_drewN ?_ _ | refine blk_drew ?_ | refine blk_alloc ?_ _)); refine blk_put (cs := #[.int .i64 t387, .int .i64 ((rd_T60 l1 x23_1).f0.f1), .string ((rd_T60 l1 x23_1).f1)]) ?_ 1 _ rfl; (with_reducible repeat (first | refine blk_drewN ?_ _ | refine blk_drew ?_ | refine blk_alloc ?_ _)); refine blk_put (cs := #[.int .i64 ((rd_T60 l1 x23_1).f0.f0), .int .i64 ((rd_T60 l1 x23_1).f0.f1), .string ((rd_T60 l1 x23_1).f1)]) ?_ 0 _ rfl; (with_reducible repeat (first | refine blk_drewN ?_ _ | refine blk_drew ?_ | refine blk_alloc ?_ _)); exact BK386.out⟩, ⟨pxb HB⟩⟩
       case rest => as_aux_lemma =>
        clear HC10
        try clear c1
        try clear p2
        try clear c3
        try clear p3
        try clear q3
        try clear hx3
        try clear c4
        try clear c4b0
        try clear c4b1
        try clear c6
        try clear c6b0
        try clear c7
        try clear c7b0
        try clear c8
        try clear c8b0
        try clear c15
        try clear c15b0
        try clear c15b1
        try clear hcz12_0
        try clear hcz12_1
        try clear hcz12_2
        try clear hcz14_0
        try clear hcz14_1
        try clear hcz14_2
        try clear hcz16_0
        try clear hcz16_1
        try clear hcz16_2
        try clear hcz17_0
        try clear hcz17_1
        try clear hcz17_2
        try clear hfz12_0
        try clear hfz12_1
        try clear hfz12_2
        try clear hfz14_0
        try clear hfz14_1
        try clear hfz14_2
        try clear hfz16_0
        try clear hfz16_1
        try clear hfz16_2
        try clear hfz17_0
        try clear hfz17_1
        try clear hfz17_2
        try clear hx385_0
        try clear hx385_1
        try clear hx385_2
        try clear p2
        try clear p385
        try clear q385
        obtain ⟨kq, x41_9, rfl, HA, HJ9, HO_8, BK386, HB⟩ := hcut
        cases kq with
        | zero => exact absurd HA.out (by simp [edit_Tidy.j1])
        | succ kj9 =>
         have H := HA.out
         clear HA
         simp only [edit_Tidy.j1] at H
         by_cases c18 : x41_9 = true
         ·subst c18
          have H1 : (edit_Tidy.l0 kj9 a0 x8_1 l1 (l1.length : Int) (wrap64 (x23_1 + 1))) = some (r1, r2) := by rw [if_pos rfl] at H; exact H
          clear H
          have H := H1
          clear H1
          have H' := Aside0.mk H
          clear H
          go_wp2
          go_roundg kj9
          case measure => have := HK1.out; have := HJ9.out; omega
          case rel => exact ⟨(x8_1), (wrap64 (x23_1 + 1)), (by first | rfl | (simp; done) | (simp [*]; done)), H', ⟨by have := HK1.out; have := HJ9.out; omega⟩, ⟨by (with_reducible repeat (first | apply Kd.R_alloc | apply Kd.R_drewN | apply Kd.R_drew)); exact Kd.R_mono HO_8.out (fun _ hk => trivial)⟩, ⟨pxb HB⟩⟩
         ·replace c18 := Bool.eq_false_iff.mpr c18
          subst c18
          have H1 : (if (x8_1.length : Int) > 0 then (if 0 ≤ (wrap64 ((x8_1.length : Int) - 1)) then (if (wrap64 ((x8_1.length : Int) - 1)) < (x8_1.length : Int) then (edit_Tidy.j2 kj9 a0 x8_1 (x8_1.length : Int) l1 (l1.length : Int) x23_1 (((rd_T60 x8_1 (wrap64 ((x8_1.length : Int) - 1))).f0.f1) == t387) t387 t388 t389) else (none)) else (none)) else (edit_Tidy.j2 kj9 a0 x8_1 (x8_1.length : Int) l1 (l1.length : Int) x23_1 false t387 t388 t389)) = some (r1, r2) := by rw [if_neg (show ¬ (false = true) by decide)] at H; exact H
          clear H
          have H := H1
          clear H1
          have HC19 := Aside0.mk H
          clear H
          obtain ⟨Ao20, co20, eo20⟩ := Kd.R_slice HO_8.out
          subst eo20
          go_upto_region 11 with (fail)
          go_cut [58] (fun v58 wc => ∃ (kq : Nat) (x58_18 : Bool), v58 = .bool x58_18 ∧ Aside0 (edit_Tidy.j2 kq a0 x8_1 (x8_1.length : Int) l1 (l1.length : Int) x23_1 x58_18 t387 t388 t389 = some (r1, r2)) ∧ Aside0 (kq ≤ kj9) ∧ Aside0 (Kd.R k60 60 wc w.heap.size (fun k_ => k_ ≠ gb386) (.slice Ao20 x8_1.length co20) x8_1) ∧ Aside0 (wc.heap[gb386]? = some (.cells #[.int .i64 t387, .int .i64 t388, .string t389] 60 (0, 0))) ∧ Aside0 (Below w.heap.size w wc))
          case first =>
           have H := HC19.out
           clear HC19
           by_cases c21 : (x8_1.length : Int) > 0
           ·rw [if_pos c21] at H
            have c21b0 : decide (0 < (x8_1.length : Int)) = true := decide_eq_true c21
            have c21b1 : decide (0 < x8_1.length) = true := decide_eq_true (by omega)
            clear c21
            (first | rw [c21b0] | (simp only [i64_w, i32_w]; rw [c21b0]) | skip)
            obtain ⟨ji22, hji22⟩ : ∃ j_ : Int, (wrap64 ((x8_1.length : Int) - 1)) = j_ := ⟨_, rfl⟩
            replace H : (if 0 ≤ (ji22) then (if (ji22) < (x8_1.length : Int) then (edit_Tidy.j2 kj9 a0 x8_1 (x8_1.length : Int) l1 (l1.length : Int) x23_1 (((rd_T60 x8_1 (ji22)).f0.f1) == t387) t387 t388 t389) else (none)) else (none)) = some (r1, r2) := by first | (rw [hji22] at H; exact H) | (simp only [hji22] at H ⊢; exact H)
            have hji22w : (IntKind.i64.wrap ((x8_1.length : Int) - 1)) = ji22 := (i64_w _).trans hji22
            by_cases c23 : 0 ≤ (ji22)
            ·rw [if_pos c23] at H
             have c23b0 : decide (0 ≤ (ji22)) = true := decide_eq_true c23
             clear c23
             by_cases c24 : (ji22) < (x8_1.length : Int)
             ·rw [if_pos c24] at H
              have c24b0 : decide ((ji22) < (x8_1.length : Int)) = true := decide_eq_true c24
              clear c24
              have H' := Aside0.mk H
              clear H
              try go_wp2
              have n0_ := Aside0.mk (Kd.R_drew HO_8.out)
              have n1_ := Aside0.mk (blk_drew BK386.out)
              have n2_ := Aside0.mk (below_drew1 HB.out)
              clear HO_8
              clear BK386
              clear HB
              have HO_8 := n0_
              have BK386 := n1_
              have HB := n2_
              clear n0_ n1_ n2_
              have p390 : 0 ≤ ((ji22) : Int) := of_decide_eq_true (by first | (with_reducible assumption) | assumption)
              have q390 : (ji22) < (x8_1.length : Int) := of_decide_eq_true (by first | (with_reducible assumption) | assumption)
              obtain ⟨ad390, e390, hx390_0, hx390_1, hx390_2⟩ := at_T60 (Kd.R_reads' HO_8.out).2.2 (ji22) p390 q390
              cases e390
              replace p390 := eq_true p390
              replace q390 := eq_true q390
              refine start_ (n := 15) (S := fun w' => w'.cell? ⟨gb386, 0, none⟩ = some (.int .i64 t387) ∧ w'.cell? ⟨gb386, 1, none⟩ = some (.int .i64 t388) ∧ w'.cell? ⟨gb386, 2, none⟩ = some (.string t389) ∧ w'.cell? (ad390.add (((ji22)).toNat * 3)) = some (.int .i64 ((rd_T60 x8_1 (ji22)).f0.f0)) ∧ w'.cell? ⟨(ad390.add (((ji22)).toNat * 3)).block, (ad390.add (((ji22)).toNat * 3)).off + 1, none⟩ = some (.int .i64 ((rd_T60 x8_1 (ji22)).f0.f1)) ∧ w'.cell? ⟨(ad390.add (((ji22)).toNat * 3)).block, (ad390.add (((ji22)).toNat * 3)).off + 2, none⟩ = some (.string ((rd_T60 x8_1 (ji22)).f1))) (ds := []) #[false, false, false, false, false, false, false, false, false, false, false, false, false, false, false] (by kernel_rfl) rfl rfl ⟨(blk_cell BK386.out 0).trans rfl, (blk_cell BK386.out 1).trans rfl, (blk_cell BK386.out 2).trans rfl, hx390_0, hx390_1, hx390_2⟩ (fun hHeld => ?_); refine with_tabW edit_Tidy.tab11 edit_Tidy.bits11 (fun HT_ HW_ => ?_)
              generalize wc.drew = w25 at HO_8 BK386 HB hx390_0 hx390_1 hx390_2 hHeld ⊢
              refine pure_ (i := 0) (N := some 44) (v := ?_) (a' := ?_) #[true, false, false, false, false, false, false, false, false, false, false, false, false, false, false] rfl rfl (any_of HT_.out (by kernel_rfl)) (fun _ _ _ h => h) (Or.inl ⟨by rfl, ?_⟩) ?_ ?_
              rotate_left
              ·intro w'
               go_simp
               with_reducible rfl
              rotate_left
              ·simp only [Act.put, List.setIfInBounds_toArray, List.set_cons_zero, List.set_cons_succ, i64_w, i32_w]
               rfl
              refine pure_ (i := 1) (N := some 45) (v := ?_) (a' := ?_) #[true, true, false, false, false, false, false, false, false, false, false, false, false, false, false] rfl rfl (any_of HT_.out (by kernel_rfl)) (fun _ _ _ h => h) (Or.inl ⟨by rfl, ?_⟩) ?_ ?_
              rotate_left
              ·intro w'
               go_simp
               with_reducible rfl
              rotate_left
              ·simp only [Act.put, List.setIfInBounds_toArray, List.set_cons_zero, List.set_cons_succ, i64_w, i32_w]
               rfl
              refine pure_ (i := 2) (N := some 46) (v := ?_) (a' := ?_) #[true, true, true, false, false, false, false, false, false, false, false, false, false, false, false] rfl rfl (any_of HT_.out (by kernel_rfl)) (fun _ _ _ h => h) (Or.inl ⟨by rfl, ?_⟩) ?_ ?_
              rotate_left
              ·intro w'
               go_simp
               with_reducible rfl
              rotate_left
              ·simp only [Act.put, List.setIfInBounds_toArray, List.set_cons_zero, List.set_cons_succ, i64_w, i32_w]
               rfl
              refine pure_ (i := 3) (N := some 47) (v := ?_) (a' := ?_) #[true, true, true, true, false, false, false, false, false, false, false, false, false, false, false] rfl rfl (any_of HT_.out (by kernel_rfl)) (fun _ _ _ h => h) (Or.inl ⟨by rfl, ?_⟩) ?_ ?_
              rotate_left
              ·intro w'
               go_simp
               with_reducible rfl
              rotate_left
              ·simp only [Act.put, List.setIfInBounds_toArray, List.set_cons_zero, List.set_cons_succ, i64_w, i32_w]
               rfl
              refine pure_ (i := 4) (N := some 48) (v := ?_) (a' := ?_) #[true, true, true, true, true, false, false, false, false, false, false, false, false, false, false] rfl rfl (any_of HT_.out (by kernel_rfl)) (fun _ _ _ h => h) (Or.inl ⟨by rfl, ?_⟩) ?_ ?_
              rotate_left
              ·intro w'
               go_simp
               with_reducible rfl
              rotate_left
              ·simp only [Act.put, List.setIfInBounds_toArray, List.set_cons_zero, List.set_cons_succ, i64_w, i32_w]
               rfl
              refine pure_ (i := 5) (N := some 49) (v := ?_) (a' := ?_) #[true, true, true, true, true, true, false, false, false, false, false, false, false, false, false] rfl rfl (any_of HT_.out (by kernel_rfl)) (fun _ _ _ h => h) (Or.inl ⟨by rfl, ?_⟩) ?_ ?_
              rotate_left
              ·intro w'
               go_simp
               with_reducible rfl
              rotate_left
              ·simp only [Act.put, List.setIfInBounds_toArray, List.set_cons_zero, List.set_cons_succ, i64_w, i32_w]
               rfl
              refine pure_ (i := 6) (N := some 50) (v := ?_) (a' := ?_) #[true, true, true, true, true, true, true, false, false, false, false, false, false, false, false] rfl rfl (any_of HT_.out (by kernel_rfl)) (fun _ _ _ h => h) (Or.inl ⟨by rfl, ?_⟩) ?_ ?_
              rotate_left
              ·intro w'
               go_simp
               with_reducible rfl
              rotate_left
              ·simp only [Act.put, List.setIfInBounds_toArray, List.set_cons_zero, List.set_cons_succ, i64_w, i32_w]
               rfl
              refine pure_ (i := 7) (N := some 51) (v := ?_) (a' := ?_) #[true, true, true, true, true, true, true, true, false, false, false, false, false, false, false] rfl rfl (any_of HT_.out (by kernel_rfl)) (fun _ _ _ h => h) (Or.inl ⟨by rfl, ?_⟩) ?_ ?_
              rotate_left
              ·intro w'
               go_simp
               with_reducible rfl
              rotate_left
              ·simp only [Act.put, List.setIfInBounds_toArray, List.set_cons_zero, List.set_cons_succ, i64_w, i32_w]
               rfl
              refine pure_ (i := 8) (N := some 52) (v := ?_) (a' := ?_) #[true, true, true, true, true, true, true, true, true, false, false, false, false, false, false] rfl rfl (any_of HT_.out (by kernel_rfl)) (fun _ _ _ h => h) (Or.inl ⟨by rfl, ?_⟩) ?_ ?_
              rotate_left
              ·intro w'
               go_simp
               with_reducible rfl
              rotate_left
              ·simp only [Act.put, List.setIfInBounds_toArray, List.set_cons_zero, List.set_cons_succ, i64_w, i32_w]
               rfl
              refine pure_ (i := 10) (N := some 54) (v := ?_) (a' := ?_) #[true, true, true, true, true, true, true, true, true, false, true, false, false, false, false] rfl rfl (any_of HT_.out (by kernel_rfl)) (fun _ _ _ h => h) (Or.inl ⟨by rfl, ?_⟩) ?_ ?_
              rotate_left
              ·intro w'
               go_simp
               with_reducible rfl
              rotate_left
              ·simp only [Act.put, List.setIfInBounds_toArray, List.set_cons_zero, List.set_cons_succ, i64_w, i32_w]
               rfl
              refine pure_ (i := 11) (N := some 55) (v := ?_) (a' := ?_) #[true, true, true, true, true, true, true, true, true, false, true, true, false, false, false] rfl rfl (any_of HT_.out (by kernel_rfl)) (fun _ _ _ h => h) (Or.inl ⟨by rfl, ?_⟩) ?_ ?_
              rotate_left
              ·intro w'
               go_simp
               with_reducible rfl
              rotate_left
              ·simp only [Act.put, List.setIfInBounds_toArray, List.set_cons_zero, List.set_cons_succ, i64_w, i32_w]
               rfl
              refine take_ (i := 9) (N := some 53) (v := ?_) (a' := ?_) #[true, true, true, true, true, true, true, true, true, true, true, true, false, false, false] rfl rfl (take_ofW HT_.out HW_.out (by kernel_rfl)) (fun _ _ _ h => h) (Or.inl ⟨by rfl, ?_⟩) hHeld ?_ ?_
              rotate_left
              ·rintro w' ⟨s0, s1, s2, s3, s4, s5⟩
               go_simp
               with_reducible rfl
              rotate_left
              ·simp only [Act.put, List.setIfInBounds_toArray, List.set_cons_zero, List.set_cons_succ, i64_w, i32_w]
               rfl
              refine take_ (i := 12) (N := some 56) (v := ?_) (a' := ?_) #[true, true, true, true, true, true, true, true, true, true, true, true, true, false, false] rfl rfl (take_ofW HT_.out HW_.out (by kernel_rfl)) (fun _ _ _ h => h) (Or.inl ⟨by rfl, ?_⟩) hHeld ?_ ?_
              rotate_left
              ·rintro w' ⟨s0, s1, s2, s3, s4, s5⟩
               go_simp
               with_reducible rfl
              rotate_left
              ·simp only [Act.put, List.setIfInBounds_toArray, List.set_cons_zero, List.set_cons_succ, i64_w, i32_w]
               rfl
              refine pure_ (i := 13) (N := some 57) (v := ?_) (a' := ?_) #[true, true, true, true, true, true, true, true, true, true, true, true, true, true, false] rfl rfl (any_of HT_.out (by kernel_rfl)) (fun _ _ _ h => h) (Or.inl ⟨by rfl, ?_⟩) ?_ ?_
              rotate_left
              ·intro w'
               go_simp
               with_reducible rfl
              rotate_left
              ·simp only [Act.put, List.setIfInBounds_toArray, List.set_cons_zero, List.set_cons_succ, i64_w, i32_w]
               rfl
              refine pure_ (i := 14) (N := some 58) (v := ?_) (a' := ?_) #[true, true, true, true, true, true, true, true, true, true, true, true, true, true, true] rfl rfl (any_of HT_.out (by kernel_rfl)) (fun _ _ _ h => h) (Or.inl ⟨by rfl, ?_⟩) ?_ ?_
              rotate_left
              ·intro w'
               go_simp
               with_reducible rfl
              rotate_left
              ·simp only [Act.put, List.setIfInBounds_toArray, List.set_cons_zero, List.set_cons_succ, i64_w, i32_w]
               rfl
              refine done_ (done_of HT_.out (by kernel_rfl)) ?_
              try go_wp2
              go_meet
              case rel => exact ⟨_, ((((rd_T60 x8_1 (ji22)).f0.f1) == t387)), (by first | rfl | (simp; done) | (simp only [← hji22] <;> (first | rfl | simp)) | (simp [*]; done)), H', ⟨by have := HK1.out; have := HJ9.out; first | omega | exact Nat.le_refl _⟩, ⟨pxr HO_8⟩, ⟨pxq BK386⟩, ⟨pxb HB⟩⟩
             ·rw [if_neg c24] at H
              exact absurd H (by simp)
            ·rw [if_neg c23] at H
             exact absurd H (by simp)
           ·rw [if_neg c21] at H
            have c21b0 : decide (0 < (x8_1.length : Int)) = false := decide_eq_false c21
            have c21b1 : decide (0 < x8_1.length) = false := decide_eq_false (by omega)
            clear c21
            (first | rw [c21b0] | (simp only [i64_w, i32_w]; rw [c21b0]) | skip)
            have H' := Aside0.mk H
            clear H
            try go_wp2
            have n0_ := Aside0.mk (Kd.R_drew HO_8.out)
            have n1_ := Aside0.mk (blk_drew BK386.out)
            have n2_ := Aside0.mk (below_drew1 HB.out)
            clear HO_8
            clear BK386
            clear HB
            have HO_8 := n0_
            have BK386 := n1_
            have HB := n2_
            clear n0_ n1_ n2_
            refine start_ (n := 15) (S := fun w' => True) (ds := []) #[false, false, false, false, false, false, false, false, false, false, false, false, false, false, false] (by kernel_rfl) rfl rfl trivial (fun hHeld => ?_); refine with_tabW edit_Tidy.tab11 edit_Tidy.bits11 (fun HT_ HW_ => ?_)
            generalize wc.drew = w26 at HO_8 BK386 HB hHeld ⊢
            refine pure_ (i := 0) (N := some 44) (v := ?_) (a' := ?_) #[true, false, false, false, false, false, false, false, false, false, false, false, false, false, false] rfl rfl (any_of HT_.out (by kernel_rfl)) (fun _ _ _ h => h) (Or.inl ⟨by rfl, ?_⟩) ?_ ?_
            rotate_left
            ·intro w'
             go_simp
             with_reducible rfl
            rotate_left
            ·simp only [Act.put, List.setIfInBounds_toArray, List.set_cons_zero, List.set_cons_succ, i64_w, i32_w]
             rfl
            refine pure_ (i := 1) (N := some 45) (v := ?_) (a' := ?_) #[true, true, false, false, false, false, false, false, false, false, false, false, false, false, false] rfl rfl (any_of HT_.out (by kernel_rfl)) (fun _ _ _ h => h) (Or.inl ⟨by rfl, ?_⟩) ?_ ?_
            rotate_left
            ·intro w'
             go_simp
             with_reducible rfl
            rotate_left
            ·simp only [Act.put, List.setIfInBounds_toArray, List.set_cons_zero, List.set_cons_succ, i64_w, i32_w]
             rfl
            refine pure_ (i := 2) (N := some 46) (v := ?_) (a' := ?_) #[true, true, true, false, false, false, false, false, false, false, false, false, false, false, false] rfl rfl (any_of HT_.out (by kernel_rfl)) (fun _ _ _ h => h) (Or.inl ⟨by rfl, ?_⟩) ?_ ?_
            rotate_left
            ·intro w'
             go_simp
             with_reducible rfl
            rotate_left
            ·simp only [Act.put, List.setIfInBounds_toArray, List.set_cons_zero, List.set_cons_succ, i64_w, i32_w]
             rfl
            refine pure_ (i := 3) (N := some 47) (v := undef) (a' := ?_) #[true, true, true, true, false, false, false, false, false, false, false, false, false, false, false] rfl rfl (any_of HT_.out (by kernel_rfl)) (fun _ _ _ h => h) (Or.inr ⟨by rfl, rfl⟩) ?_ ?_
            rotate_left
            ·simp only [Act.put, List.setIfInBounds_toArray, List.set_cons_zero, List.set_cons_succ, i64_w, i32_w]
             rfl
            refine pure_ (i := 4) (N := some 48) (v := undef) (a' := ?_) #[true, true, true, true, true, false, false, false, false, false, false, false, false, false, false] rfl rfl (any_of HT_.out (by kernel_rfl)) (fun _ _ _ h => h) (Or.inr ⟨by rfl, rfl⟩) ?_ ?_
            rotate_left
            ·simp only [Act.put, List.setIfInBounds_toArray, List.set_cons_zero, List.set_cons_succ, i64_w, i32_w]
             rfl
            refine pure_ (i := 5) (N := some 49) (v := undef) (a' := ?_) #[true, true, true, true, true, true, false, false, false, false, false, false, false, false, false] rfl rfl (any_of HT_.out (by kernel_rfl)) (fun _ _ _ h => h) (Or.inr ⟨by rfl, rfl⟩) ?_ ?_
            rotate_left
            ·simp only [Act.put, List.setIfInBounds_toArray, List.set_cons_zero, List.set_cons_succ, i64_w, i32_w]
             rfl
            refine pure_ (i := 6) (N := some 50) (v := undef) (a' := ?_) #[true, true, true, true, true, true, true, false, false, false, false, false, false, false, false] rfl rfl (any_of HT_.out (by kernel_rfl)) (fun _ _ _ h => h) (Or.inr ⟨by rfl, rfl⟩) ?_ ?_
            rotate_left
            ·simp only [Act.put, List.setIfInBounds_toArray, List.set_cons_zero, List.set_cons_succ, i64_w, i32_w]
             rfl
            refine pure_ (i := 7) (N := some 51) (v := undef) (a' := ?_) #[true, true, true, true, true, true, true, true, false, false, false, false, false, false, false] rfl rfl (any_of HT_.out (by kernel_rfl)) (fun _ _ _ h => h) (Or.inr ⟨by rfl, rfl⟩) ?_ ?_
            rotate_left
            ·simp only [Act.put, List.setIfInBounds_toArray, List.set_cons_zero, List.set_cons_succ, i64_w, i32_w]
             rfl
            refine pure_ (i := 8) (N := some 52) (v := undef) (a' := ?_) #[true, true, true, true, true, true, true, true, true, false, false, false, false, false, false] rfl rfl (any_of HT_.out (by kernel_rfl)) (fun _ _ _ h => h) (Or.inr ⟨by rfl, rfl⟩) ?_ ?_
            rotate_left
            ·simp only [Act.put, List.setIfInBounds_toArray, List.set_cons_zero, List.set_cons_succ, i64_w, i32_w]
             rfl
            refine pure_ (i := 9) (N := some 53) (v := undef) (a' := ?_) #[true, true, true, true, true, true, true, true, true, true, false, false, false, false, false] rfl rfl (any_of HT_.out (by kernel_rfl)) (fun _ _ _ h => h) (Or.inr ⟨by rfl, rfl⟩) ?_ ?_
            rotate_left
            ·simp only [Act.put, List.setIfInBounds_toArray, List.set_cons_zero, List.set_cons_succ, i64_w, i32_w]
             rfl
            refine pure_ (i := 10) (N := some 54) (v := undef) (a' := ?_) #[true, true, true, true, true, true, true, true, true, true, true, false, false, false, false] rfl rfl (any_of HT_.out (by kernel_rfl)) (fun _ _ _ h => h) (Or.inr ⟨by rfl, rfl⟩) ?_ ?_
            rotate_left
            ·simp only [Act.put, List.setIfInBounds_toArray, List.set_cons_zero, List.set_cons_succ, i64_w, i32_w]
             rfl
            refine pure_ (i := 11) (N := some 55) (v := undef) (a' := ?_) #[true, true, true, true, true, true, true, true, true, true, true, true, false, false, false] rfl rfl (any_of HT_.out (by kernel_rfl)) (fun _ _ _ h => h) (Or.inr ⟨by rfl, rfl⟩) ?_ ?_
            rotate_left
            ·simp only [Act.put, List.setIfInBounds_toArray, List.set_cons_zero, List.set_cons_succ, i64_w, i32_w]
             rfl
            refine pure_ (i := 12) (N := some 56) (v := undef) (a' := ?_) #[true, true, true, true, true, true, true, true, true, true, true, true, true, false, false] rfl rfl (any_of HT_.out (by kernel_rfl)) (fun _ _ _ h => h) (Or.inr ⟨by rfl, rfl⟩) ?_ ?_
            rotate_left
            ·simp only [Act.put, List.setIfInBounds_toArray, List.set_cons_zero, List.set_cons_succ, i64_w, i32_w]
             rfl
            refine pure_ (i := 13) (N := some 57) (v := undef) (a' := ?_) #[true, true, true, true, true, true, true, true, true, true, true, true, true, true, false] rfl rfl (any_of HT_.out (by kernel_rfl)) (fun _ _ _ h => h) (Or.inr ⟨by rfl, rfl⟩) ?_ ?_
            rotate_left
            ·simp only [Act.put, List.setIfInBounds_toArray, List.set_cons_zero, List.set_cons_succ, i64_w, i32_w]
             rfl
            refine pure_ (i := 14) (N := some 58) (v := ?_) (a' := ?_) #[true, true, true, true, true, true, true, true, true, true, true, true, true, true, true] rfl rfl (any_of HT_.out (by kernel_rfl)) (fun _ _ _ h => h) (Or.inl ⟨by rfl, ?_⟩) ?_ ?_
            rotate_left
            ·intro w'
             go_simp
             with_reducible rfl
            rotate_left
            ·simp only [Act.put, List.setIfInBounds_toArray, List.set_cons_zero, List.set_cons_succ, i64_w, i32_w]
             rfl
            refine done_ (done_of HT_.out (by kernel_rfl)) ?_
            try go_wp2
            go_meet
            case rel => exact ⟨_, (false), (by first | rfl | (simp; done) | (simp [*]; done)), H', ⟨by have := HK1.out; have := HJ9.out; first | omega | exact Nat.le_refl _⟩, ⟨pxr HO_8⟩, ⟨pxq BK386⟩, ⟨pxb HB⟩⟩
          case rest => as_aux_lemma =>
           clear HC19
           try clear c1
           try clear c2
           try clear p2
           try clear c3
           try clear p3
           try clear q3
           try clear hx3
           try clear c4
           try clear c4b0
           try clear c4b1
           try clear c6
           try clear c6b0
           try clear p6
           try clear c7
           try clear c7b0
           try clear c8
           try clear c8b0
           try clear c15
           try clear c15b0
           try clear c15b1
           try clear c18
           try clear c21
           try clear c21b0
           try clear c21b1
           try clear c23
           try clear c23b0
           try clear c24
           try clear c24b0
           try clear hcz12_0
           try clear hcz12_1
           try clear hcz12_2
           try clear hcz14_0
           try clear hcz14_1
           try clear hcz14_2
           try clear hcz16_0
           try clear hcz16_1
           try clear hcz16_2
           try clear hcz17_0
           try clear hcz17_1
           try clear hcz17_2
           try clear hfz12_0
           try clear hfz12_1
           try clear hfz12_2
           try clear hfz14_0
           try clear hfz14_1
           try clear hfz14_2
           try clear hfz16_0
           try clear hfz16_1
           try clear hfz16_2
           try clear hfz17_0
           try clear hfz17_1
           try clear hfz17_2
           try clear hx385_0
           try clear hx385_1
           try clear hx385_2
           try clear hx390_0
           try clear hx390_1
           try clear hx390_2
           try clear p2
           try clear p3
           try clear p385
           try clear p390
           try clear q3
           try clear q385
           try clear q390
           obtain ⟨kq, x58_18, rfl, HA, HJ18, HO_8, BK386, HB⟩ := hcut
           cases kq with
           | zero => exact absurd HA.out (by simp [edit_Tidy.j2])
           | succ kj18 =>
            have H := HA.out
            clear HA
            simp only [edit_Tidy.j2] at H
            by_cases c27 : x58_18 = true
            ·subst c27
             have H1 : (if 0 ≤ (wrap64 ((x8_1.length : Int) - 1)) then (if (wrap64 ((x8_1.length : Int) - 1)) < (x8_1.length : Int) then (if ((rd_T60 x8_1 (wrap64 ((x8_1.length : Int) - 1))).f1).size + t389.size ≤ 9223372036854775807 then ((edit_trim.f kj18 a0 ((rd_T60 x8_1 (wrap64 ((x8_1.length : Int) - 1))).f0.f0) t388 (((rd_T60 x8_1 (wrap64 ((x8_1.length : Int) - 1))).f1) ++ t389)).bind fun bt393 => (if (wrap64 ((x8_1.length : Int) - 1)) ≤ (x8_1.length : Int) then ((some (x8_1.take ((wrap64 ((x8_1.length : Int) - 1)) : Int).toNat : List (S60))).bind fun y396 => (if bt393.1 = bt393.2.1 then (if bt393.2.2.toList = ([] : List UInt8) then (edit_Tidy.l0 kj18 a0 y396 l1 (l1.length : Int) (wrap64 (x23_1 + 1))) else (if y396.length < 4398046511104 then (edit_Tidy.l0 kj18 a0 (y396 ++ [(⟨(⟨bt393.1, bt393.2.1⟩ : S24), bt393.2.2⟩ : S60)]) l1 (l1.length : Int) (wrap64 (x23_1 + 1))) else (none))) else (if y396.length < 4398046511104 then (edit_Tidy.l0 kj18 a0 (y396 ++ [(⟨(⟨bt393.1, bt393.2.1⟩ : S24), bt393.2.2⟩ : S60)]) l1 (l1.length : Int) (wrap64 (x23_1 + 1))) else (none)))) else (none))) else (none)) else (none)) else (none)) = some (r1, r2) := by rw [if_pos rfl] at H; exact H
             clear H
             have H := H1
             clear H1
             obtain ⟨ji28, hji28⟩ : ∃ j_ : Int, (wrap64 ((x8_1.length : Int) - 1)) = j_ := ⟨_, rfl⟩
             replace H : (if 0 ≤ (ji28) then (if (ji28) < (x8_1.length : Int) then (if ((rd_T60 x8_1 (ji28)).f1).size + t389.size ≤ 9223372036854775807 then ((edit_trim.f kj18 a0 ((rd_T60 x8_1 (ji28)).f0.f0) t388 (((rd_T60 x8_1 (ji28)).f1) ++ t389)).bind fun bt393 => (if (ji28) ≤ (x8_1.length : Int) then ((some (x8_1.take ((ji28) : Int).toNat : List (S60))).bind fun y396 => (if bt393.1 = bt393.2.1 then (if bt393.2.2.toList = ([] : List UInt8) then (edit_Tidy.l0 kj18 a0 y396 l1 (l1.length : Int) (wrap64 (x23_1 + 1))) else (if y396.length < 4398046511104 then (edit_Tidy.l0 kj18 a0 (y396 ++ [(⟨(⟨bt393.1, bt393.2.1⟩ : S24), bt393.2.2⟩ : S60)]) l1 (l1.length : Int) (wrap64 (x23_1 + 1))) else (none))) else (if y396.length < 4398046511104 then (edit_Tidy.l0 kj18 a0 (y396 ++ [(⟨(⟨bt393.1, bt393.2.1⟩ : S24), bt393.2.2⟩ : S60)]) l1 (l1.length : Int) (wrap64 (x23_1 + 1))) else (none)))) else (none))) else (none)) else (none)) else (none)) = some (r1, r2) := by first | (rw [hji28] at H; exact H) | (simp only [hji28] at H ⊢; exact H)
             have hji28w : (IntKind.i64.wrap ((x8_1.length : Int) - 1)) = ji28 := (i64_w _).trans hji28
             by_cases c29 : 0 ≤ (ji28)
             ·rw [if_pos c29] at H
              have c29b0 : decide (0 ≤ (ji28)) = true := decide_eq_true c29
              clear c29
              by_cases c30 : (ji28) < (x8_1.length : Int)
              ·rw [if_pos c30] at H
               have c30b0 : decide ((ji28) < (x8_1.length : Int)) = true := decide_eq_true c30
               clear c30
               by_cases c31 : ((rd_T60 x8_1 (ji28)).f1).size + t389.size ≤ 9223372036854775807
               ·rw [if_pos c31] at H
                have c31b0 := eq_true c31
                have c31b1 : decide (((rd_T60 x8_1 (ji28)).f1).size + t389.size ≤ 9223372036854775807) = true := decide_eq_true c31
                try have c31b2 : (9223372036854775807 < ((rd_T60 x8_1 (ji28)).f1).size + t389.size) = False := eq_false (Nat.not_lt.2 c31)
                replace H := Option.bind_eq_some_iff.mp H
                obtain ⟨⟨t393, t394, t395⟩, A320, H⟩ := H
                replace H : (if (ji28) ≤ (x8_1.length : Int) then ((some (x8_1.take ((ji28) : Int).toNat : List (S60))).bind fun y396 => (if t393 = t394 then (if t395.toList = ([] : List UInt8) then (edit_Tidy.l0 kj18 a0 y396 l1 (l1.length : Int) (wrap64 (x23_1 + 1))) else (if y396.length < 4398046511104 then (edit_Tidy.l0 kj18 a0 (y396 ++ [(⟨(⟨t393, t394⟩ : S24), t395⟩ : S60)]) l1 (l1.length : Int) (wrap64 (x23_1 + 1))) else (none))) else (if y396.length < 4398046511104 then (edit_Tidy.l0 kj18 a0 (y396 ++ [(⟨(⟨t393, t394⟩ : S24), t395⟩ : S60)]) l1 (l1.length : Int) (wrap64 (x23_1 + 1))) else (none)))) else (none)) = some (r1, r2) := H
                have A32 := Aside0.mk A320
                clear A320
                by_cases c33 : (ji28) ≤ (x8_1.length : Int)
                ·rw [if_pos c33] at H
                 have c33b0 := eq_true c33
                 have c33b1 : decide ((ji28) ≤ (x8_1.length : Int)) = true := decide_eq_true c33
                 clear c33
                 obtain ⟨y396, hy396⟩ : ∃ y_ : List (S60), y_ = (x8_1.take ((ji28) : Int).toNat) := ⟨_, rfl⟩
                 replace H : (if t393 = t394 then (if t395.toList = ([] : List UInt8) then (edit_Tidy.l0 kj18 a0 y396 l1 (l1.length : Int) (wrap64 (x23_1 + 1))) else (if y396.length < 4398046511104 then (edit_Tidy.l0 kj18 a0 (y396 ++ [(⟨(⟨t393, t394⟩ : S24), t395⟩ : S60)]) l1 (l1.length : Int) (wrap64 (x23_1 + 1))) else (none))) else (if y396.length < 4398046511104 then (edit_Tidy.l0 kj18 a0 (y396 ++ [(⟨(⟨t393, t394⟩ : S24), t395⟩ : S60)]) l1 (l1.length : Int) (wrap64 (x23_1 + 1))) else (none))) = some (r1, r2) := by first | (rw [hy396]; with_reducible exact H) | (have H2_ := (Option.bind_some _ _).symm.trans H; rw [hy396]; with_reducible exact H2_) | (have H2_ := (Option.bind_some _ _).symm.trans H; with_reducible exact H2_) | with_reducible exact H | (rw [hy396]; exact H) | exact H
                 have Ny396 := Aside0.mk hy396
                 clear hy396
                 by_cases c34 : t393 = t394
                 ·rw [if_pos c34] at H
                  have c34b0 : (t393 == t394) = true := beq_iff_eq.mpr c34
                  have c34b1 : (t393 != t394) = false := bne_eq_false_iff_eq.mpr c34
                  clear c34
                  by_cases c35 : t395.toList = ([] : List UInt8)
                  ·rw [if_pos c35] at H
                   have c35b0 : (t395.toList == ([] : List UInt8)) = true := beq_iff_eq.mpr c35
                   have c35b1 : (t395.toList != ([] : List UInt8)) = false := bne_eq_false_iff_eq.mpr c35
                   clear c35
                   have H' := Aside0.mk H
                   clear H
                   try go_wp2
                   have n0_ := Aside0.mk (Kd.R_drew HO_8.out)
                   have n1_ := Aside0.mk (blk_drew BK386.out)
                   have n2_ := Aside0.mk (below_drew1 HB.out)
                   clear HO_8
                   clear BK386
                   clear HB
                   have HO_8 := n0_
                   have BK386 := n1_
                   have HB := n2_
                   clear n0_ n1_ n2_
                   have p391 : 0 ≤ ((ji28) : Int) := of_decide_eq_true (by first | (with_reducible assumption) | assumption)
                   have q391 : (ji28) < (x8_1.length : Int) := of_decide_eq_true (by first | (with_reducible assumption) | assumption)
                   obtain ⟨ad391, e391, hx391_0, hx391_1, hx391_2⟩ := at_T60 (Kd.R_reads' HO_8.out).2.2 (ji28) p391 q391
                   cases e391
                   replace p391 := eq_true p391
                   replace q391 := eq_true q391
                   have p392 : 0 ≤ ((ji28) : Int) := of_decide_eq_true (by first | (with_reducible assumption) | assumption)
                   have q392 : (ji28) < (x8_1.length : Int) := of_decide_eq_true (by first | (with_reducible assumption) | assumption)
                   obtain ⟨ad392, e392, hx392_0, hx392_1, hx392_2⟩ := at_T60 (Kd.R_reads' HO_8.out).2.2 (ji28) p392 q392
                   obtain rfl : ad391 = ad392 := (by injection e392)
                   replace p392 := eq_true p392
                   replace q392 := eq_true q392
                   refine start_ (n := 24) (S := fun w' => w'.cell? ⟨gb386, 0, none⟩ = some (.int .i64 t387) ∧ w'.cell? ⟨gb386, 1, none⟩ = some (.int .i64 t388) ∧ w'.cell? ⟨gb386, 2, none⟩ = some (.string t389) ∧ w'.cell? (ad391.add (((ji28)).toNat * 3)) = some (.int .i64 ((rd_T60 x8_1 (ji28)).f0.f0)) ∧ w'.cell? ⟨(ad391.add (((ji28)).toNat * 3)).block, (ad391.add (((ji28)).toNat * 3)).off + 1, none⟩ = some (.int .i64 ((rd_T60 x8_1 (ji28)).f0.f1)) ∧ w'.cell? ⟨(ad391.add (((ji28)).toNat * 3)).block, (ad391.add (((ji28)).toNat * 3)).off + 2, none⟩ = some (.string ((rd_T60 x8_1 (ji28)).f1)) ∧ w'.cell? (ad391.add (((ji28)).toNat * 3)) = some (.int .i64 ((rd_T60 x8_1 (ji28)).f0.f0)) ∧ w'.cell? ⟨(ad391.add (((ji28)).toNat * 3)).block, (ad391.add (((ji28)).toNat * 3)).off + 1, none⟩ = some (.int .i64 ((rd_T60 x8_1 (ji28)).f0.f1)) ∧ w'.cell? ⟨(ad391.add (((ji28)).toNat * 3)).block, (ad391.add (((ji28)).toNat * 3)).off + 2, none⟩ = some (.string ((rd_T60 x8_1 (ji28)).f1))) (ds := [23]) #[false, false, false, false, false, false, false, false, false, false, false, false, false, false, false, false, false, false, false, false, false, false, false, false] (by kernel_rfl) rfl rfl ⟨(blk_cell BK386.out 0).trans rfl, (blk_cell BK386.out 1).trans rfl, (blk_cell BK386.out 2).trans rfl, hx391_0, hx391_1, hx391_2, hx392_0, hx392_1, hx392_2⟩ (fun hHeld => ?_); refine with_tabW edit_Tidy.tab12 edit_Tidy.bits12 (fun HT_ HW_ => ?_)
                   generalize wc.drew = w36 at HO_8 BK386 HB hx391_0 hx391_1 hx391_2 hx392_0 hx392_1 hx392_2 hHeld ⊢
                   refine pure_ (i := 0) (N := some 59) (v := ?_) (a' := ?_) #[true, false, false, false, false, false, false, false, false, false, false, false, false, false, false, false, false, false, false, false, false, false, false, false] rfl rfl (any_of HT_.out (by kernel_rfl)) (fun _ _ _ h => h) (Or.inl ⟨by rfl, ?_⟩) ?_ ?_
                   rotate_left
                   ·intro w'
                    go_simp
                    with_reducible rfl
                   rotate_left
                   ·simp only [Act.put, List.setIfInBounds_toArray, List.set_cons_zero, List.set_cons_succ, i64_w, i32_w]
                    rfl
                   refine pure_ (i := 1) (N := some 60) (v := ?_) (a' := ?_) #[true, true, false, false, false, false, false, false, false, false, false, false, false, false, false, false, false, false, false, false, false, false, false, false] rfl rfl (any_of HT_.out (by kernel_rfl)) (fun _ _ _ h => h) (Or.inl ⟨by rfl, ?_⟩) ?_ ?_
                   rotate_left
                   ·intro w'
                    go_simp
                    with_reducible rfl
                   rotate_left
                   ·simp only [Act.put, List.setIfInBounds_toArray, List.set_cons_zero, List.set_cons_succ, i64_w, i32_w]
                    rfl
                   refine pure_ (i := 2) (N := some 61) (v := ?_) (a' := ?_) #[true, true, true, false, false, false, false, false, false, false, false, false, false, false, false, false, false, false, false, false, false, false, false, false] rfl rfl (any_of HT_.out (by kernel_rfl)) (fun _ _ _ h => h) (Or.inl ⟨by rfl, ?_⟩) ?_ ?_
                   rotate_left
                   ·intro w'
                    go_simp
                    with_reducible rfl
                   rotate_left
                   ·simp only [Act.put, List.setIfInBounds_toArray, List.set_cons_zero, List.set_cons_succ, i64_w, i32_w]
                    rfl
                   refine pure_ (i := 3) (N := some 62) (v := ?_) (a' := ?_) #[true, true, true, true, false, false, false, false, false, false, false, false, false, false, false, false, false, false, false, false, false, false, false, false] rfl rfl (any_of HT_.out (by kernel_rfl)) (fun _ _ _ h => h) (Or.inl ⟨by rfl, ?_⟩) ?_ ?_
                   rotate_left
                   ·intro w'
                    go_simp
                    with_reducible rfl
                   rotate_left
                   ·simp only [Act.put, List.setIfInBounds_toArray, List.set_cons_zero, List.set_cons_succ, i64_w, i32_w]
                    rfl
                   refine pure_ (i := 4) (N := some 63) (v := ?_) (a' := ?_) #[true, true, true, true, true, false, false, false, false, false, false, false, false, false, false, false, false, false, false, false, false, false, false, false] rfl rfl (any_of HT_.out (by kernel_rfl)) (fun _ _ _ h => h) (Or.inl ⟨by rfl, ?_⟩) ?_ ?_
                   rotate_left
                   ·intro w'
                    go_simp
                    with_reducible rfl
                   rotate_left
                   ·simp only [Act.put, List.setIfInBounds_toArray, List.set_cons_zero, List.set_cons_succ, i64_w, i32_w]
                    rfl
                   refine pure_ (i := 5) (N := some 64) (v := ?_) (a' := ?_) #[true, true, true, true, true, true, false, false, false, false, false, false, false, false, false, false, false, false, false, false, false, false, false, false] rfl rfl (any_of HT_.out (by kernel_rfl)) (fun _ _ _ h => h) (Or.inl ⟨by rfl, ?_⟩) ?_ ?_
                   rotate_left
                   ·intro w'
                    go_simp
                    with_reducible rfl
                   rotate_left
                   ·simp only [Act.put, List.setIfInBounds_toArray, List.set_cons_zero, List.set_cons_succ, i64_w, i32_w]
                    rfl
                   refine pure_ (i := 6) (N := some 65) (v := ?_) (a' := ?_) #[true, true, true, true, true, true, true, false, false, false, false, false, false, false, false, false, false, false, false, false, false, false, false, false] rfl rfl (any_of HT_.out (by kernel_rfl)) (fun _ _ _ h => h) (Or.inl ⟨by rfl, ?_⟩) ?_ ?_
                   rotate_left
                   ·intro w'
                    go_simp
                    with_reducible rfl
                   rotate_left
                   ·simp only [Act.put, List.setIfInBounds_toArray, List.set_cons_zero, List.set_cons_succ, i64_w, i32_w]
                    rfl
                   refine pure_ (i := 8) (N := some 67) (v := ?_) (a' := ?_) #[true, true, true, true, true, true, true, false, true, false, false, false, false, false, false, false, false, false, false, false, false, false, false, false] rfl rfl (any_of HT_.out (by kernel_rfl)) (fun _ _ _ h => h) (Or.inl ⟨by rfl, ?_⟩) ?_ ?_
                   rotate_left
                   ·intro w'
                    go_simp
                    with_reducible rfl
                   rotate_left
                   ·simp only [Act.put, List.setIfInBounds_toArray, List.set_cons_zero, List.set_cons_succ, i64_w, i32_w]
                    rfl
                   refine pure_ (i := 9) (N := some 68) (v := ?_) (a' := ?_) #[true, true, true, true, true, true, true, false, true, true, false, false, false, false, false, false, false, false, false, false, false, false, false, false] rfl rfl (any_of HT_.out (by kernel_rfl)) (fun _ _ _ h => h) (Or.inl ⟨by rfl, ?_⟩) ?_ ?_
                   rotate_left
                   ·intro w'
                    go_simp
                    with_reducible rfl
                   rotate_left
                   ·simp only [Act.put, List.setIfInBounds_toArray, List.set_cons_zero, List.set_cons_succ, i64_w, i32_w]
                    rfl
                   refine pure_ (i := 12) (N := some 71) (v := ?_) (a' := ?_) #[true, true, true, true, true, true, true, false, true, true, false, false, true, false, false, false, false, false, false, false, false, false, false, false] rfl rfl (any_of HT_.out (by kernel_rfl)) (fun _ _ _ h => h) (Or.inl ⟨by rfl, ?_⟩) ?_ ?_
                   rotate_left
                   ·intro w'
                    go_simp
                    with_reducible rfl
                   rotate_left
                   ·simp only [Act.put, List.setIfInBounds_toArray, List.set_cons_zero, List.set_cons_succ, i64_w, i32_w]
                    rfl
                   refine pure_ (i := 13) (N := some 72) (v := ?_) (a' := ?_) #[true, true, true, true, true, true, true, false, true, true, false, false, true, true, false, false, false, false, false, false, false, false, false, false] rfl rfl (any_of HT_.out (by kernel_rfl)) (fun _ _ _ h => h) (Or.inl ⟨by rfl, ?_⟩) ?_ ?_
                   rotate_left
                   ·intro w'
                    go_simp
                    with_reducible rfl
                   rotate_left
                   ·simp only [Act.put, List.setIfInBounds_toArray, List.set_cons_zero, List.set_cons_succ, i64_w, i32_w]
                    rfl
                   refine pure_ (i := 14) (N := some 73) (v := ?_) (a' := ?_) #[true, true, true, true, true, true, true, false, true, true, false, false, true, true, true, false, false, false, false, false, false, false, false, false] rfl rfl (any_of HT_.out (by kernel_rfl)) (fun _ _ _ h => h) (Or.inl ⟨by rfl, ?_⟩) ?_ ?_
                   rotate_left
                   ·intro w'
                    go_simp
                    with_reducible rfl
                   rotate_left
                   ·simp only [Act.put, List.setIfInBounds_toArray, List.set_cons_zero, List.set_cons_succ, i64_w, i32_w]
                    rfl
                   refine pure_ (i := 15) (N := some 74) (v := ?_) (a' := ?_) #[true, true, true, true, true, true, true, false, true, true, false, false, true, true, true, true, false, false, false, false, false, false, false, false] rfl rfl (any_of HT_.out (by kernel_rfl)) (fun _ _ _ h => h) (Or.inl ⟨by rfl, ?_⟩) ?_ ?_
                   rotate_left
                   ·intro w'
                    go_simp
                    with_reducible rfl
                   rotate_left
                   ·simp only [Act.put, List.setIfInBounds_toArray, List.set_cons_zero, List.set_cons_succ, i64_w, i32_w]
                    rfl
                   refine pure_ (i := 16) (N := some 75) (v := ?_) (a' := ?_) #[true, true, true, true, true, true, true, false, true, true, false, false, true, true, true, true, true, false, false, false, false, false, false, false] rfl rfl (any_of HT_.out (by kernel_rfl)) (fun _ _ _ h => h) (Or.inl ⟨by rfl, ?_⟩) ?_ ?_
                   rotate_left
                   ·intro w'
                    go_simp
                    with_reducible rfl
                   rotate_left
                   ·simp only [Act.put, List.setIfInBounds_toArray, List.set_cons_zero, List.set_cons_succ, i64_w, i32_w]
                    rfl
                   refine pure_ (i := 18) (N := some 77) (v := ?_) (a' := ?_) #[true, true, true, true, true, true, true, false, true, true, false, false, true, true, true, true, true, false, true, false, false, false, false, false] rfl rfl (any_of HT_.out (by kernel_rfl)) (fun _ _ _ h => h) (Or.inl ⟨by rfl, ?_⟩) ?_ ?_
                   rotate_left
                   ·intro w'
                    go_simp
                    with_reducible rfl
                   rotate_left
                   ·simp only [Act.put, List.setIfInBounds_toArray, List.set_cons_zero, List.set_cons_succ, i64_w, i32_w]
                    rfl
                   refine take_ (i := 7) (N := some 66) (v := ?_) (a' := ?_) #[true, true, true, true, true, true, true, true, true, true, false, false, true, true, true, true, true, false, true, false, false, false, false, false] rfl rfl (take_ofW HT_.out HW_.out (by kernel_rfl)) (fun _ _ _ h => h) (Or.inl ⟨by rfl, ?_⟩) hHeld ?_ ?_
                   rotate_left
                   ·rintro w' ⟨s0, s1, s2, s3, s4, s5, s6, s7, s8⟩
                    go_simp
                    with_reducible rfl
                   rotate_left
                   ·simp only [Act.put, List.setIfInBounds_toArray, List.set_cons_zero, List.set_cons_succ, i64_w, i32_w]
                    rfl
                   refine take_ (i := 10) (N := some 69) (v := ?_) (a' := ?_) #[true, true, true, true, true, true, true, true, true, true, true, false, true, true, true, true, true, false, true, false, false, false, false, false] rfl rfl (take_ofW HT_.out HW_.out (by kernel_rfl)) (fun _ _ _ h => h) (Or.inl ⟨by rfl, ?_⟩) hHeld ?_ ?_
                   rotate_left
                   ·rintro w' ⟨s0, s1, s2, s3, s4, s5, s6, s7, s8⟩
                    go_simp
                    with_reducible rfl
                   rotate_left
                   ·simp only [Act.put, List.setIfInBounds_toArray, List.set_cons_zero, List.set_cons_succ, i64_w, i32_w]
                    rfl
                   refine pure_ (i := 11) (N := some 70) (v := ?_) (a' := ?_) #[true, true, true, true, true, true, true, true, true, true, true, true, true, true, true, true, true, false, true, false, false, false, false, false] rfl rfl (any_of HT_.out (by kernel_rfl)) (fun _ _ _ h => h) (Or.inl ⟨by rfl, ?_⟩) ?_ ?_
                   rotate_left
                   ·intro w'
                    go_simp
                    with_reducible rfl
                   rotate_left
                   ·simp only [Act.put, List.setIfInBounds_toArray, List.set_cons_zero, List.set_cons_succ, i64_w, i32_w]
                    rfl
                   refine take_ (i := 17) (N := some 76) (v := ?_) (a' := ?_) #[true, true, true, true, true, true, true, true, true, true, true, true, true, true, true, true, true, true, true, false, false, false, false, false] rfl rfl (take_ofW HT_.out HW_.out (by kernel_rfl)) (fun _ _ _ h => h) (Or.inl ⟨by rfl, ?_⟩) hHeld ?_ ?_
                   rotate_left
                   ·rintro w' ⟨s0, s1, s2, s3, s4, s5, s6, s7, s8⟩
                    go_simp
                    with_reducible rfl
                   rotate_left
                   ·simp only [Act.put, List.setIfInBounds_toArray, List.set_cons_zero, List.set_cons_succ, i64_w, i32_w]
                    rfl
                   refine take_ (i := 19) (N := some 78) (v := ?_) (a' := ?_) #[true, true, true, true, true, true, true, true, true, true, true, true, true, true, true, true, true, true, true, true, false, false, false, false] rfl rfl (take_ofW HT_.out HW_.out (by kernel_rfl)) (fun _ _ _ h => h) (Or.inl ⟨by rfl, ?_⟩) hHeld ?_ ?_
                   rotate_left
                   ·rintro w' ⟨s0, s1, s2, s3, s4, s5, s6, s7, s8⟩
                    go_simp
                    with_reducible rfl
                   rotate_left
                   ·simp only [Act.put, List.setIfInBounds_toArray, List.set_cons_zero, List.set_cons_succ, i64_w, i32_w]
                    rfl
                   refine pure_ (i := 20) (N := some 79) (v := ?_) (a' := ?_) #[true, true, true, true, true, true, true, true, true, true, true, true, true, true, true, true, true, true, true, true, true, false, false, false] rfl rfl (any_of HT_.out (by kernel_rfl)) (fun _ _ _ h => h) (Or.inl ⟨by rfl, ?_⟩) ?_ ?_
                   rotate_left
                   ·intro w'
                    go_simp
                    with_reducible rfl
                   rotate_left
                   ·simp only [Act.put, List.setIfInBounds_toArray, List.set_cons_zero, List.set_cons_succ, i64_w, i32_w]
                    rfl
                   refine pure_ (i := 21) (N := some 80) (v := ?_) (a' := ?_) #[true, true, true, true, true, true, true, true, true, true, true, true, true, true, true, true, true, true, true, true, true, true, false, false] rfl rfl (any_of HT_.out (by kernel_rfl)) (fun _ _ _ h => h) (Or.inl ⟨by rfl, ?_⟩) ?_ ?_
                   rotate_left
                   ·intro w'
                    go_simp
                    with_reducible rfl
                   rotate_left
                   ·simp only [Act.put, List.setIfInBounds_toArray, List.set_cons_zero, List.set_cons_succ, i64_w, i32_w]
                    rfl
                   refine one_ (i := 22) (N := some 81) #[true, true, true, true, true, true, true, true, true, true, true, true, true, true, true, true, true, true, true, true, true, true, true, false] rfl rfl (one_of HT_.out (by kernel_rfl)) (by decide) (fun K hK => ?_)
                   refine goes_ Try.func45 (by kernel_rfl) rfl #[.string a0, .agg #[.int .i64 ((rd_T60 x8_1 (ji28)).f0.f0), .int .i64 t388, .string (((rd_T60 x8_1 (ji28)).f1) ++ t389)]] (by rfl) rfl rfl (by (try simp only [List.map_toArray, List.map_cons, List.map_nil]); first | done | (simp only [hji28]; rfl) | rfl | (simp only [List.length_drop, List.length_take]; rfl)) ?_
                   with_reducible refine (edit_trim.calls kj18 a0 ((rd_T60 x8_1 (ji28)).f0.f0) t388 (((rd_T60 x8_1 (ji28)).f1) ++ t389) t393 t394 t395 _ A32.out).mono ?_
                   rintro e w37 ⟨rfl, hb⟩
                   have HS3_ := (hb.cell (World.block_lt_of_cell? _ _ (hHeld.2.2.2.1))).trans (hHeld.2.2.2.1)
                   have HS4_ := (hb.cell (World.block_lt_of_cell? _ _ (hHeld.2.2.2.2.1))).trans (hHeld.2.2.2.2.1)
                   have HS5_ := (hb.cell (World.block_lt_of_cell? _ _ (hHeld.2.2.2.2.2.1))).trans (hHeld.2.2.2.2.2.1)
                   have HS6_ := (hb.cell (World.block_lt_of_cell? _ _ (hHeld.2.2.2.2.2.2.1))).trans (hHeld.2.2.2.2.2.2.1)
                   have HS7_ := (hb.cell (World.block_lt_of_cell? _ _ (hHeld.2.2.2.2.2.2.2.1))).trans (hHeld.2.2.2.2.2.2.2.1)
                   have HS8_ := (hb.cell (World.block_lt_of_cell? _ _ (hHeld.2.2.2.2.2.2.2.2))).trans (hHeld.2.2.2.2.2.2.2.2)
                   refine ⟨_, rfl, ?_⟩
                   have n0_ := Aside0.mk (Kd.R_below (pxr HO_8) hb)
                   have n1_ := pxk BK386 hb
                   have n2_ := pxs HB hb
                   clear HO_8
                   clear BK386
                   clear HB
                   have HO_8 := n0_
                   have BK386 := n1_
                   have HB := n2_
                   clear n0_ n1_ n2_
                   (try clear hb)
                   (try clear hb2)
                   (try clear hk)
                   (try clear hi)
                   refine hK.out _ _ ⟨(blk_cell BK386.out 0).trans rfl, (blk_cell BK386.out 1).trans rfl, (blk_cell BK386.out 2).trans rfl, HS3_, HS4_, HS5_, HS6_, HS7_, HS8_⟩ (fun hHeld => ?_)
                   clear hK K
                   refine norm_ (a' := ?_) ?_ ?_
                   rotate_left
                   ·show Act.put _ (some 81) _ = _
                    simp only [Act.put, List.setIfInBounds_toArray, List.set_cons_zero, List.set_cons_succ, i64_w, i32_w]
                    rfl
                   refine last_ (i := 23) (N := none) #[true, true, true, true, true, true, true, true, true, true, true, true, true, true, true, true, true, true, true, true, true, true, true, true] rfl rfl (one_of HT_.out (by kernel_rfl)) (by decide) (fun K hK => ?_)
                   have hs38 : w37.cell? ⟨gb386, 0, none⟩ = some (.int .i64 t387) := (blk_cell BK386.out 0).trans rfl
                   have hfs38 := blk_frozen BK386.out 0
                   have hs39 : w37.cell? ⟨gb386, 1, none⟩ = some (.int .i64 t388) := (blk_cell BK386.out 1).trans rfl
                   have hfs39 := blk_frozen BK386.out 1
                   have hs40 : w37.cell? ⟨gb386, 2, none⟩ = some (.string t389) := (blk_cell BK386.out 2).trans rfl
                   have hfs40 := blk_frozen BK386.out 2
                   refine skip_ (w1 := ?_) (by rfl) rfl ?_ ?_
                   rotate_left
                   ·go_simp
                    rfl
                   refine hK.out _ _ ?_
                   clear hK K
                   refine done_ (done_of HT_.out (by kernel_rfl)) ?_
                   have n0_ : Aside0 (Kd.R k60 60 (((w37.setCell ⟨gb386, 0, none⟩ (.int .i64 t393)).setCell ⟨gb386, 1, none⟩ (.int .i64 t394)).setCell ⟨gb386, 2, none⟩ (.string t395)) w.heap.size (fun k_ => k_ ≠ gb386) (.slice (some ad391) x8_1.length co20) x8_1) := ⟨by (with_reducible repeat (first | apply Kd.R_alloc | apply Kd.R_drewN | apply Kd.R_drew)); exact Kd.R_mono (Kd.R_far (p := ⟨gb386, 2, none⟩) (Kd.R_far (p := ⟨gb386, 1, none⟩) (Kd.R_far (p := ⟨gb386, 0, none⟩) (Kd.R_mono HO_8.out (fun k_ hk => (⟨hk, hk⟩ : _ ∧ k_ ≠ gb386))) (fun _ hk => hk.2) (.int .i64 t393)) (fun _ hk => hk.2) (.int .i64 t394)) (fun _ hk => hk.2) (.string t395)) (fun _ hk => hk.1)⟩
                   have n1_ : Aside0 ((((w37.setCell ⟨gb386, 0, none⟩ (.int .i64 t393)).setCell ⟨gb386, 1, none⟩ (.int .i64 t394)).setCell ⟨gb386, 2, none⟩ (.string t395)).heap[gb386]? = some (.cells #[.int .i64 t393, .int .i64 t394, .string t395] 60 (0, 0))) := ⟨by (with_reducible repeat (first | refine blk_drewN ?_ _ | refine blk_drew ?_ | refine blk_alloc ?_ _)); refine blk_put (cs := #[.int .i64 t393, .int .i64 t394, .string t389]) ?_ 2 _ rfl; (with_reducible repeat (first | refine blk_drewN ?_ _ | refine blk_drew ?_ | refine blk_alloc ?_ _)); refine blk_put (cs := #[.int .i64 t393, .int .i64 t388, .string t389]) ?_ 1 _ rfl; (with_reducible repeat (first | refine blk_drewN ?_ _ | refine blk_drew ?_ | refine blk_alloc ?_ _)); refine blk_put (cs := #[.int .i64 t387, .int .i64 t388, .string t389]) ?_ 0 _ rfl; (with_reducible repeat (first | refine blk_drewN ?_ _ | refine blk_drew ?_ | refine blk_alloc ?_ _)); exact BK386.out⟩
                   have n2_ : Aside0 (Below w.heap.size w (((w37.setCell ⟨gb386, 0, none⟩ (.int .i64 t393)).setCell ⟨gb386, 1, none⟩ (.int .i64 t394)).setCell ⟨gb386, 2, none⟩ (.string t395))) := ⟨pxb HB⟩
                   (try clear HO_8)
                   (try clear BK386)
                   (try clear HB)
                   generalize (((w37.setCell ⟨gb386, 0, none⟩ (.int .i64 t393)).setCell ⟨gb386, 1, none⟩ (.int .i64 t394)).setCell ⟨gb386, 2, none⟩ (.string t395)) = w41 at n0_ n1_ n2_ ⊢
                   have HO_8 := n0_
                   have BK386 := n1_
                   have HB := n2_
                   clear n0_ n1_ n2_
                   have q42 : ((ji28) : Int) ≤ ((x8_1.length : Int) : Int) := of_decide_eq_true (by first | (with_reducible assumption) | assumption)
                   obtain ⟨i042, hi042, _, hsz42, _⟩ := info_parts info60
                   have hcut42 := cut_to (P := Try.prog) 50 60 .i64 Try.underlying50 hi042 (some ad391) x8_1.length co20 (ji28) (of_decide_eq_true (by first | (with_reducible assumption) | assumption)) q42 (Kd.R_reads' HO_8.out).2.1
                   have hr42 := Kd.R_take (m := ((ji28) : Int).toNat) HO_8.out (by omega)
                   have hy42 : y396.length = ((ji28) : Int).toNat := (by rw [Ny396.out, List.length_take]; omega)
                   rw [← Ny396.out] at hr42
                   rw [← hy42] at hr42 hcut42
                   clear hy42 hi042 hsz42 HO_8
                   have HO398 := Aside0.mk hr42
                   clear hr42
                   replace q42 := eq_true q42
                   have hcz43_0 : w41.cell? ⟨gb386, 0, none⟩ = some (.int .i64 t393) := (blk_cell BK386.out 0).trans rfl
                   have hcz43_1 : w41.cell? ⟨gb386, 1, none⟩ = some (.int .i64 t394) := (blk_cell BK386.out 1).trans rfl
                   have hcz43_2 : w41.cell? ⟨gb386, 2, none⟩ = some (.string t395) := (blk_cell BK386.out 2).trans rfl
                   have hfz43_0 := blk_frozen BK386.out 0
                   have hfz43_1 := blk_frozen BK386.out 1
                   have hfz43_2 := blk_frozen BK386.out 2
                   try go_wp2
                   go_roundg kj18
                   case measure => have := HK1.out; have := HJ9.out; have := HJ18.out; omega
                   case rel => exact ⟨(y396), (wrap64 (x23_1 + 1)), (by first | rfl | (simp; done) | (simp [*]; done)), H', ⟨by have := HK1.out; have := HJ9.out; have := HJ18.out; omega⟩, ⟨by (with_reducible repeat (first | apply Kd.R_alloc | apply Kd.R_drewN | apply Kd.R_drew)); exact Kd.R_mono HO398.out (fun _ hk => trivial)⟩, ⟨pxb HB⟩⟩
                  ·rw [if_neg c35] at H
                   have c35b0 : (t395.toList == ([] : List UInt8)) = false := beq_eq_false_iff_ne.mpr c35
                   have c35b1 : (t395.toList != ([] : List UInt8)) = true := bne_iff_ne.mpr c35
                   by_cases c44 : y396.length < 4398046511104
                   ·rw [if_pos c44] at H
                    have LMc44 := Aside0.mk c44
                    clear c44
                    obtain ⟨y399, hy399⟩ : ∃ y_ : List (S60), y_ = (y396 ++ [(⟨(⟨t393, t394⟩ : S24), t395⟩ : S60)]) := ⟨_, rfl⟩
                    replace H : (edit_Tidy.l0 kj18 a0 y399 l1 (l1.length : Int) (wrap64 (x23_1 + 1))) = some (r1, r2) := by first | (rw [hy399]; with_reducible exact H) | (have H2_ := (Option.bind_some _ _).symm.trans H; rw [hy399]; with_reducible exact H2_) | (have H2_ := (Option.bind_some _ _).symm.trans H; with_reducible exact H2_) | with_reducible exact H | (rw [hy399]; exact H) | exact H
                    have Ny399 := Aside0.mk hy399
                    clear hy399
                    have H' := Aside0.mk H
                    clear H
                    try go_wp2
                    have n0_ := Aside0.mk (Kd.R_drew HO_8.out)
                    have n1_ := Aside0.mk (blk_drew BK386.out)
                    have n2_ := Aside0.mk (below_drew1 HB.out)
                    clear HO_8
                    clear BK386
                    clear HB
                    have HO_8 := n0_
                    have BK386 := n1_
                    have HB := n2_
                    clear n0_ n1_ n2_
                    have p391 : 0 ≤ ((ji28) : Int) := of_decide_eq_true (by first | (with_reducible assumption) | assumption)
                    have q391 : (ji28) < (x8_1.length : Int) := of_decide_eq_true (by first | (with_reducible assumption) | assumption)
                    obtain ⟨ad391, e391, hx391_0, hx391_1, hx391_2⟩ := at_T60 (Kd.R_reads' HO_8.out).2.2 (ji28) p391 q391
                    cases e391
                    replace p391 := eq_true p391
                    replace q391 := eq_true q391
                    have p392 : 0 ≤ ((ji28) : Int) := of_decide_eq_true (by first | (with_reducible assumption) | assumption)
                    have q392 : (ji28) < (x8_1.length : Int) := of_decide_eq_true (by first | (with_reducible assumption) | assumption)
                    obtain ⟨ad392, e392, hx392_0, hx392_1, hx392_2⟩ := at_T60 (Kd.R_reads' HO_8.out).2.2 (ji28) p392 q392
                    obtain rfl : ad391 = ad392 := (by injection e392)
                    replace p392 := eq_true p392
                    replace q392 := eq_true q392
                    refine start_ (n := 24) (S := fun w' => w'.cell? ⟨gb386, 0, none⟩ = some (.int .i64 t387) ∧ w'.cell? ⟨gb386, 1, none⟩ = some (.int .i64 t388) ∧ w'.cell? ⟨gb386, 2, none⟩ = some (.string t389) ∧ w'.cell? (ad391.add (((ji28)).toNat * 3)) = some (.int .i64 ((rd_T60 x8_1 (ji28)).f0.f0)) ∧ w'.cell? ⟨(ad391.add (((ji28)).toNat * 3)).block, (ad391.add (((ji28)).toNat * 3)).off + 1, none⟩ = some (.int .i64 ((rd_T60 x8_1 (ji28)).f0.f1)) ∧ w'.cell? ⟨(ad391.add (((ji28)).toNat * 3)).block, (ad391.add (((ji28)).toNat * 3)).off + 2, none⟩ = some (.string ((rd_T60 x8_1 (ji28)).f1)) ∧ w'.cell? (ad391.add (((ji28)).toNat * 3)) = some (.int .i64 ((rd_T60 x8_1 (ji28)).f0.f0)) ∧ w'.cell? ⟨(ad391.add (((ji28)).toNat * 3)).block, (ad391.add (((ji28)).toNat * 3)).off + 1, none⟩ = some (.int .i64 ((rd_T60 x8_1 (ji28)).f0.f1)) ∧ w'.cell? ⟨(ad391.add (((ji28)).toNat * 3)).block, (ad391.add (((ji28)).toNat * 3)).off + 2, none⟩ = some (.string ((rd_T60 x8_1 (ji28)).f1))) (ds := [23]) #[false, false, false, false, false, false, false, false, false, false, false, false, false, false, false, false, false, false, false, false, false, false, false, false] (by kernel_rfl) rfl rfl ⟨(blk_cell BK386.out 0).trans rfl, (blk_cell BK386.out 1).trans rfl, (blk_cell BK386.out 2).trans rfl, hx391_0, hx391_1, hx391_2, hx392_0, hx392_1, hx392_2⟩ (fun hHeld => ?_); refine with_tabW edit_Tidy.tab12 edit_Tidy.bits12 (fun HT_ HW_ => ?_)
                    generalize wc.drew = w45 at HO_8 BK386 HB hx391_0 hx391_1 hx391_2 hx392_0 hx392_1 hx392_2 hHeld ⊢
                    refine pure_ (i := 0) (N := some 59) (v := ?_) (a' := ?_) #[true, false, false, false, false, false, false, false, false, false, false, false, false, false, false, false, false, false, false, false, false, false, false, false] rfl rfl (any_of HT_.out (by kernel_rfl)) (fun _ _ _ h => h) (Or.inl ⟨by rfl, ?_⟩) ?_ ?_
                    rotate_left
                    ·intro w'
                     go_simp
                     with_reducible rfl
                    rotate_left
                    ·simp only [Act.put, List.setIfInBounds_toArray, List.set_cons_zero, List.set_cons_succ, i64_w, i32_w]
                     rfl
                    refine pure_ (i := 1) (N := some 60) (v := ?_) (a' := ?_) #[true, true, false, false, false, false, false, false, false, false, false, false, false, false, false, false, false, false, false, false, false, false, false, false] rfl rfl (any_of HT_.out (by kernel_rfl)) (fun _ _ _ h => h) (Or.inl ⟨by rfl, ?_⟩) ?_ ?_
                    rotate_left
                    ·intro w'
                     go_simp
                     with_reducible rfl
                    rotate_left
                    ·simp only [Act.put, List.setIfInBounds_toArray, List.set_cons_zero, List.set_cons_succ, i64_w, i32_w]
                     rfl
                    refine pure_ (i := 2) (N := some 61) (v := ?_) (a' := ?_) #[true, true, true, false, false, false, false, false, false, false, false, false, false, false, false, false, false, false, false, false, false, false, false, false] rfl rfl (any_of HT_.out (by kernel_rfl)) (fun _ _ _ h => h) (Or.inl ⟨by rfl, ?_⟩) ?_ ?_
                    rotate_left
                    ·intro w'
                     go_simp
                     with_reducible rfl
                    rotate_left
                    ·simp only [Act.put, List.setIfInBounds_toArray, List.set_cons_zero, List.set_cons_succ, i64_w, i32_w]
                     rfl
                    refine pure_ (i := 3) (N := some 62) (v := ?_) (a' := ?_) #[true, true, true, true, false, false, false, false, false, false, false, false, false, false, false, false, false, false, false, false, false, false, false, false] rfl rfl (any_of HT_.out (by kernel_rfl)) (fun _ _ _ h => h) (Or.inl ⟨by rfl, ?_⟩) ?_ ?_
                    rotate_left
                    ·intro w'
                     go_simp
                     with_reducible rfl
                    rotate_left
                    ·simp only [Act.put, List.setIfInBounds_toArray, List.set_cons_zero, List.set_cons_succ, i64_w, i32_w]
                     rfl
                    refine pure_ (i := 4) (N := some 63) (v := ?_) (a' := ?_) #[true, true, true, true, true, false, false, false, false, false, false, false, false, false, false, false, false, false, false, false, false, false, false, false] rfl rfl (any_of HT_.out (by kernel_rfl)) (fun _ _ _ h => h) (Or.inl ⟨by rfl, ?_⟩) ?_ ?_
                    rotate_left
                    ·intro w'
                     go_simp
                     with_reducible rfl
                    rotate_left
                    ·simp only [Act.put, List.setIfInBounds_toArray, List.set_cons_zero, List.set_cons_succ, i64_w, i32_w]
                     rfl
                    refine pure_ (i := 5) (N := some 64) (v := ?_) (a' := ?_) #[true, true, true, true, true, true, false, false, false, false, false, false, false, false, false, false, false, false, false, false, false, false, false, false] rfl rfl (any_of HT_.out (by kernel_rfl)) (fun _ _ _ h => h) (Or.inl ⟨by rfl, ?_⟩) ?_ ?_
                    rotate_left
                    ·intro w'
                     go_simp
                     with_reducible rfl
                    rotate_left
                    ·simp only [Act.put, List.setIfInBounds_toArray, List.set_cons_zero, List.set_cons_succ, i64_w, i32_w]
                     rfl
                    refine pure_ (i := 6) (N := some 65) (v := ?_) (a' := ?_) #[true, true, true, true, true, true, true, false, false, false, false, false, false, false, false, false, false, false, false, false, false, false, false, false] rfl rfl (any_of HT_.out (by kernel_rfl)) (fun _ _ _ h => h) (Or.inl ⟨by rfl, ?_⟩) ?_ ?_
                    rotate_left
                    ·intro w'
                     go_simp
                     with_reducible rfl
                    rotate_left
                    ·simp only [Act.put, List.setIfInBounds_toArray, List.set_cons_zero, List.set_cons_succ, i64_w, i32_w]
                     rfl
                    refine pure_ (i := 8) (N := some 67) (v := ?_) (a' := ?_) #[true, true, true, true, true, true, true, false, true, false, false, false, false, false, false, false, false, false, false, false, false, false, false, false] rfl rfl (any_of HT_.out (by kernel_rfl)) (fun _ _ _ h => h) (Or.inl ⟨by rfl, ?_⟩) ?_ ?_
                    rotate_left
                    ·intro w'
                     go_simp
                     with_reducible rfl
                    rotate_left
                    ·simp only [Act.put, List.setIfInBounds_toArray, List.set_cons_zero, List.set_cons_succ, i64_w, i32_w]
                     rfl
                    refine pure_ (i := 9) (N := some 68) (v := ?_) (a' := ?_) #[true, true, true, true, true, true, true, false, true, true, false, false, false, false, false, false, false, false, false, false, false, false, false, false] rfl rfl (any_of HT_.out (by kernel_rfl)) (fun _ _ _ h => h) (Or.inl ⟨by rfl, ?_⟩) ?_ ?_
                    rotate_left
                    ·intro w'
                     go_simp
                     with_reducible rfl
                    rotate_left
                    ·simp only [Act.put, List.setIfInBounds_toArray, List.set_cons_zero, List.set_cons_succ, i64_w, i32_w]
                     rfl
                    refine pure_ (i := 12) (N := some 71) (v := ?_) (a' := ?_) #[true, true, true, true, true, true, true, false, true, true, false, false, true, false, false, false, false, false, false, false, false, false, false, false] rfl rfl (any_of HT_.out (by kernel_rfl)) (fun _ _ _ h => h) (Or.inl ⟨by rfl, ?_⟩) ?_ ?_
                    rotate_left
                    ·intro w'
                     go_simp
                     with_reducible rfl
                    rotate_left
                    ·simp only [Act.put, List.setIfInBounds_toArray, List.set_cons_zero, List.set_cons_succ, i64_w, i32_w]
                     rfl
                    refine pure_ (i := 13) (N := some 72) (v := ?_) (a' := ?_) #[true, true, true, true, true, true, true, false, true, true, false, false, true, true, false, false, false, false, false, false, false, false, false, false] rfl rfl (any_of HT_.out (by kernel_rfl)) (fun _ _ _ h => h) (Or.inl ⟨by rfl, ?_⟩) ?_ ?_
                    rotate_left
                    ·intro w'
                     go_simp
                     with_reducible rfl
                    rotate_left
                    ·simp only [Act.put, List.setIfInBounds_toArray, List.set_cons_zero, List.set_cons_succ, i64_w, i32_w]
                     rfl
                    refine pure_ (i := 14) (N := some 73) (v := ?_) (a' := ?_) #[true, true, true, true, true, true, true, false, true, true, false, false, true, true, true, false, false, false, false, false, false, false, false, false] rfl rfl (any_of HT_.out (by kernel_rfl)) (fun _ _ _ h => h) (Or.inl ⟨by rfl, ?_⟩) ?_ ?_
                    rotate_left
                    ·intro w'
                     go_simp
                     with_reducible rfl
                    rotate_left
                    ·simp only [Act.put, List.setIfInBounds_toArray, List.set_cons_zero, List.set_cons_succ, i64_w, i32_w]
                     rfl
                    refine pure_ (i := 15) (N := some 74) (v := ?_) (a' := ?_) #[true, true, true, true, true, true, true, false, true, true, false, false, true, true, true, true, false, false, false, false, false, false, false, false] rfl rfl (any_of HT_.out (by kernel_rfl)) (fun _ _ _ h => h) (Or.inl ⟨by rfl, ?_⟩) ?_ ?_
                    rotate_left
                    ·intro w'
                     go_simp
                     with_reducible rfl
                    rotate_left
                    ·simp only [Act.put, List.setIfInBounds_toArray, List.set_cons_zero, List.set_cons_succ, i64_w, i32_w]
                     rfl
                    refine pure_ (i := 16) (N := some 75) (v := ?_) (a' := ?_) #[true, true, true, true, true, true, true, false, true, true, false, false, true, true, true, true, true, false, false, false, false, false, false, false] rfl rfl (any_of HT_.out (by kernel_rfl)) (fun _ _ _ h => h) (Or.inl ⟨by rfl, ?_⟩) ?_ ?_
                    rotate_left
                    ·intro w'
                     go_simp
                     with_reducible rfl
                    rotate_left
                    ·simp only [Act.put, List.setIfInBounds_toArray, List.set_cons_zero, List.set_cons_succ, i64_w, i32_w]
                     rfl
                    refine pure_ (i := 18) (N := some 77) (v := ?_) (a' := ?_) #[true, true, true, true, true, true, true, false, true, true, false, false, true, true, true, true, true, false, true, false, false, false, false, false] rfl rfl (any_of HT_.out (by kernel_rfl)) (fun _ _ _ h => h) (Or.inl ⟨by rfl, ?_⟩) ?_ ?_
                    rotate_left
                    ·intro w'
                     go_simp
                     with_reducible rfl
                    rotate_left
                    ·simp only [Act.put, List.setIfInBounds_toArray, List.set_cons_zero, List.set_cons_succ, i64_w, i32_w]
                     rfl
                    refine take_ (i := 7) (N := some 66) (v := ?_) (a' := ?_) #[true, true, true, true, true, true, true, true, true, true, false, false, true, true, true, true, true, false, true, false, false, false, false, false] rfl rfl (take_ofW HT_.out HW_.out (by kernel_rfl)) (fun _ _ _ h => h) (Or.inl ⟨by rfl, ?_⟩) hHeld ?_ ?_
                    rotate_left
                    ·rintro w' ⟨s0, s1, s2, s3, s4, s5, s6, s7, s8⟩
                     go_simp
                     with_reducible rfl
                    rotate_left
                    ·simp only [Act.put, List.setIfInBounds_toArray, List.set_cons_zero, List.set_cons_succ, i64_w, i32_w]
                     rfl
                    refine take_ (i := 10) (N := some 69) (v := ?_) (a' := ?_) #[true, true, true, true, true, true, true, true, true, true, true, false, true, true, true, true, true, false, true, false, false, false, false, false] rfl rfl (take_ofW HT_.out HW_.out (by kernel_rfl)) (fun _ _ _ h => h) (Or.inl ⟨by rfl, ?_⟩) hHeld ?_ ?_
                    rotate_left
                    ·rintro w' ⟨s0, s1, s2, s3, s4, s5, s6, s7, s8⟩
                     go_simp
                     with_reducible rfl
                    rotate_left
                    ·simp only [Act.put, List.setIfInBounds_toArray, List.set_cons_zero, List.set_cons_succ, i64_w, i32_w]
                     rfl
                    refine pure_ (i := 11) (N := some 70) (v := ?_) (a' := ?_) #[true, true, true, true, true, true, true, true, true, true, true, true, true, true, true, true, true, false, true, false, false, false, false, false] rfl rfl (any_of HT_.out (by kernel_rfl)) (fun _ _ _ h => h) (Or.inl ⟨by rfl, ?_⟩) ?_ ?_
                    rotate_left
                    ·intro w'
                     go_simp
                     with_reducible rfl
                    rotate_left
                    ·simp only [Act.put, List.setIfInBounds_toArray, List.set_cons_zero, List.set_cons_succ, i64_w, i32_w]
                     rfl
                    refine take_ (i := 17) (N := some 76) (v := ?_) (a' := ?_) #[true, true, true, true, true, true, true, true, true, true, true, true, true, true, true, true, true, true, true, false, false, false, false, false] rfl rfl (take_ofW HT_.out HW_.out (by kernel_rfl)) (fun _ _ _ h => h) (Or.inl ⟨by rfl, ?_⟩) hHeld ?_ ?_
                    rotate_left
                    ·rintro w' ⟨s0, s1, s2, s3, s4, s5, s6, s7, s8⟩
                     go_simp
                     with_reducible rfl
                    rotate_left
                    ·simp only [Act.put, List.setIfInBounds_toArray, List.set_cons_zero, List.set_cons_succ, i64_w, i32_w]
                     rfl
                    refine take_ (i := 19) (N := some 78) (v := ?_) (a' := ?_) #[true, true, true, true, true, true, true, true, true, true, true, true, true, true, true, true, true, true, true, true, false, false, false, false] rfl rfl (take_ofW HT_.out HW_.out (by kernel_rfl)) (fun _ _ _ h => h) (Or.inl ⟨by rfl, ?_⟩) hHeld ?_ ?_
                    rotate_left
                    ·rintro w' ⟨s0, s1, s2, s3, s4, s5, s6, s7, s8⟩
                     go_simp
                     with_reducible rfl
                    rotate_left
                    ·simp only [Act.put, List.setIfInBounds_toArray, List.set_cons_zero, List.set_cons_succ, i64_w, i32_w]
                     rfl
                    refine pure_ (i := 20) (N := some 79) (v := ?_) (a' := ?_) #[true, true, true, true, true, true, true, true, true, true, true, true, true, true, true, true, true, true, true, true, true, false, false, false] rfl rfl (any_of HT_.out (by kernel_rfl)) (fun _ _ _ h => h) (Or.inl ⟨by rfl, ?_⟩) ?_ ?_
                    rotate_left
                    ·intro w'
                     go_simp
                     with_reducible rfl
                    rotate_left
                    ·simp only [Act.put, List.setIfInBounds_toArray, List.set_cons_zero, List.set_cons_succ, i64_w, i32_w]
                     rfl
                    refine pure_ (i := 21) (N := some 80) (v := ?_) (a' := ?_) #[true, true, true, true, true, true, true, true, true, true, true, true, true, true, true, true, true, true, true, true, true, true, false, false] rfl rfl (any_of HT_.out (by kernel_rfl)) (fun _ _ _ h => h) (Or.inl ⟨by rfl, ?_⟩) ?_ ?_
                    rotate_left
                    ·intro w'
                     go_simp
                     with_reducible rfl
                    rotate_left
                    ·simp only [Act.put, List.setIfInBounds_toArray, List.set_cons_zero, List.set_cons_succ, i64_w, i32_w]
                     rfl
                    refine one_ (i := 22) (N := some 81) #[true, true, true, true, true, true, true, true, true, true, true, true, true, true, true, true, true, true, true, true, true, true, true, false] rfl rfl (one_of HT_.out (by kernel_rfl)) (by decide) (fun K hK => ?_)
                    refine goes_ Try.func45 (by kernel_rfl) rfl #[.string a0, .agg #[.int .i64 ((rd_T60 x8_1 (ji28)).f0.f0), .int .i64 t388, .string (((rd_T60 x8_1 (ji28)).f1) ++ t389)]] (by rfl) rfl rfl (by (try simp only [List.map_toArray, List.map_cons, List.map_nil]); first | done | (simp only [hji28]; rfl) | rfl | (simp only [List.length_drop, List.length_take]; rfl)) ?_
                    with_reducible refine (edit_trim.calls kj18 a0 ((rd_T60 x8_1 (ji28)).f0.f0) t388 (((rd_T60 x8_1 (ji28)).f1) ++ t389) t393 t394 t395 _ A32.out).mono ?_
                    rintro e w46 ⟨rfl, hb⟩
                    have HS3_ := (hb.cell (World.block_lt_of_cell? _ _ (hHeld.2.2.2.1))).trans (hHeld.2.2.2.1)
                    have HS4_ := (hb.cell (World.block_lt_of_cell? _ _ (hHeld.2.2.2.2.1))).trans (hHeld.2.2.2.2.1)
                    have HS5_ := (hb.cell (World.block_lt_of_cell? _ _ (hHeld.2.2.2.2.2.1))).trans (hHeld.2.2.2.2.2.1)
                    have HS6_ := (hb.cell (World.block_lt_of_cell? _ _ (hHeld.2.2.2.2.2.2.1))).trans (hHeld.2.2.2.2.2.2.1)
                    have HS7_ := (hb.cell (World.block_lt_of_cell? _ _ (hHeld.2.2.2.2.2.2.2.1))).trans (hHeld.2.2.2.2.2.2.2.1)
                    have HS8_ := (hb.cell (World.block_lt_of_cell? _ _ (hHeld.2.2.2.2.2.2.2.2))).trans (hHeld.2.2.2.2.2.2.2.2)
                    refine ⟨_, rfl, ?_⟩
                    have n0_ := Aside0.mk (Kd.R_below (pxr HO_8) hb)
                    have n1_ := pxk BK386 hb
                    have n2_ := pxs HB hb
                    clear HO_8
                    clear BK386
                    clear HB
                    have HO_8 := n0_
                    have BK386 := n1_
                    have HB := n2_
                    clear n0_ n1_ n2_
                    (try clear hb)
                    (try clear hb2)
                    (try clear hk)
                    (try clear hi)
                    refine hK.out _ _ ⟨(blk_cell BK386.out 0).trans rfl, (blk_cell BK386.out 1).trans rfl, (blk_cell BK386.out 2).trans rfl, HS3_, HS4_, HS5_, HS6_, HS7_, HS8_⟩ (fun hHeld => ?_)
                    clear hK K
                    refine norm_ (a' := ?_) ?_ ?_
                    rotate_left
                    ·show Act.put _ (some 81) _ = _
                     simp only [Act.put, List.setIfInBounds_toArray, List.set_cons_zero, List.set_cons_succ, i64_w, i32_w]
                     rfl
                    refine last_ (i := 23) (N := none) #[true, true, true, true, true, true, true, true, true, true, true, true, true, true, true, true, true, true, true, true, true, true, true, true] rfl rfl (one_of HT_.out (by kernel_rfl)) (by decide) (fun K hK => ?_)
                    have hs47 : w46.cell? ⟨gb386, 0, none⟩ = some (.int .i64 t387) := (blk_cell BK386.out 0).trans rfl
                    have hfs47 := blk_frozen BK386.out 0
                    have hs48 : w46.cell? ⟨gb386, 1, none⟩ = some (.int .i64 t388) := (blk_cell BK386.out 1).trans rfl
                    have hfs48 := blk_frozen BK386.out 1
                    have hs49 : w46.cell? ⟨gb386, 2, none⟩ = some (.string t389) := (blk_cell BK386.out 2).trans rfl
                    have hfs49 := blk_frozen BK386.out 2
                    refine skip_ (w1 := ?_) (by rfl) rfl ?_ ?_
                    rotate_left
                    ·go_simp
                     rfl
                    refine hK.out _ _ ?_
                    clear hK K
                    refine done_ (done_of HT_.out (by kernel_rfl)) ?_
                    have n0_ : Aside0 (Kd.R k60 60 (((w46.setCell ⟨gb386, 0, none⟩ (.int .i64 t393)).setCell ⟨gb386, 1, none⟩ (.int .i64 t394)).setCell ⟨gb386, 2, none⟩ (.string t395)) w.heap.size (fun k_ => k_ ≠ gb386) (.slice (some ad391) x8_1.length co20) x8_1) := ⟨by (with_reducible repeat (first | apply Kd.R_alloc | apply Kd.R_drewN | apply Kd.R_drew)); exact Kd.R_mono (Kd.R_far (p := ⟨gb386, 2, none⟩) (Kd.R_far (p := ⟨gb386, 1, none⟩) (Kd.R_far (p := ⟨gb386, 0, none⟩) (Kd.R_mono HO_8.out (fun k_ hk => (⟨hk, hk⟩ : _ ∧ k_ ≠ gb386))) (fun _ hk => hk.2) (.int .i64 t393)) (fun _ hk => hk.2) (.int .i64 t394)) (fun _ hk => hk.2) (.string t395)) (fun _ hk => hk.1)⟩
                    have n1_ : Aside0 ((((w46.setCell ⟨gb386, 0, none⟩ (.int .i64 t393)).setCell ⟨gb386, 1, none⟩ (.int .i64 t394)).setCell ⟨gb386, 2, none⟩ (.string t395)).heap[gb386]? = some (.cells #[.int .i64 t393, .int .i64 t394, .string t395] 60 (0, 0))) := ⟨by (with_reducible repeat (first | refine blk_drewN ?_ _ | refine blk_drew ?_ | refine blk_alloc ?_ _)); refine blk_put (cs := #[.int .i64 t393, .int .i64 t394, .string t389]) ?_ 2 _ rfl; (with_reducible repeat (first | refine blk_drewN ?_ _ | refine blk_drew ?_ | refine blk_alloc ?_ _)); refine blk_put (cs := #[.int .i64 t393, .int .i64 t388, .string t389]) ?_ 1 _ rfl; (with_reducible repeat (first | refine blk_drewN ?_ _ | refine blk_drew ?_ | refine blk_alloc ?_ _)); refine blk_put (cs := #[.int .i64 t387, .int .i64 t388, .string t389]) ?_ 0 _ rfl; (with_reducible repeat (first | refine blk_drewN ?_ _ | refine blk_drew ?_ | refine blk_alloc ?_ _)); exact BK386.out⟩
                    have n2_ : Aside0 (Below w.heap.size w (((w46.setCell ⟨gb386, 0, none⟩ (.int .i64 t393)).setCell ⟨gb386, 1, none⟩ (.int .i64 t394)).setCell ⟨gb386, 2, none⟩ (.string t395))) := ⟨pxb HB⟩
                    (try clear HO_8)
                    (try clear BK386)
                    (try clear HB)
                    generalize (((w46.setCell ⟨gb386, 0, none⟩ (.int .i64 t393)).setCell ⟨gb386, 1, none⟩ (.int .i64 t394)).setCell ⟨gb386, 2, none⟩ (.string t395)) = w50 at n0_ n1_ n2_ ⊢
                    have HO_8 := n0_
                    have BK386 := n1_
                    have HB := n2_
                    clear n0_ n1_ n2_
                    have q51 : ((ji28) : Int) ≤ ((x8_1.length : Int) : Int) := of_decide_eq_true (by first | (with_reducible assumption) | assumption)
                    obtain ⟨i051, hi051, _, hsz51, _⟩ := info_parts info60
                    have hcut51 := cut_to (P := Try.prog) 50 60 .i64 Try.underlying50 hi051 (some ad391) x8_1.length co20 (ji28) (of_decide_eq_true (by first | (with_reducible assumption) | assumption)) q51 (Kd.R_reads' HO_8.out).2.1
                    have hr51 := Kd.R_take (m := ((ji28) : Int).toNat) HO_8.out (by omega)
                    have hy51 : y396.length = ((ji28) : Int).toNat := (by rw [Ny396.out, List.length_take]; omega)
                    rw [← Ny396.out] at hr51
                    rw [← hy51] at hr51 hcut51
                    clear hy51 hi051 hsz51 HO_8
                    have HO398 := Aside0.mk hr51
                    clear hr51
                    replace q51 := eq_true q51
                    have hcz52_0 : w50.cell? ⟨gb386, 0, none⟩ = some (.int .i64 t393) := (blk_cell BK386.out 0).trans rfl
                    have hcz52_1 : w50.cell? ⟨gb386, 1, none⟩ = some (.int .i64 t394) := (blk_cell BK386.out 1).trans rfl
                    have hcz52_2 : w50.cell? ⟨gb386, 2, none⟩ = some (.string t395) := (blk_cell BK386.out 2).trans rfl
                    have hfz52_0 := blk_frozen BK386.out 0
                    have hfz52_1 := blk_frozen BK386.out 1
                    have hfz52_2 := blk_frozen BK386.out 2
                    try go_wp2_with (first | ((with_reducible refine gate_builtin (b := .append) (xs := #[.tmp 98, .tmp 100]) rfl ?_); at_builtin; refine Kd.R_append k60 (w0 := w) w.heap.size rfl (.tmp 98) (.tmp 100) 50 60 (.agg #[(.int .i64 0), (.int .i64 0), (.string ⟨#[]⟩)]) 32 rfl Try.underlying50 info60 rfl (by decide) (by omega) (.slice (some ad391) y396.length co20) y396 (⟨(⟨t393, t394⟩ : S24), t395⟩ : S60) [.int .i64 t393, .int .i64 t394, .string t395] (fun k_ => k_ ≠ gb386) (fun _ => False) rfl rfl ?aP (fun _ hk => hk.elim) ?aF ?aO ?aB ?aS ?aL ?_; (case aP => exact k60_mkM _ _ _ (⟨(⟨t393, t394⟩ : S24), t395⟩ : S60)); (case aB => exact (pxb HB)); (case aF => exact (fun k_ hk => Kd.freshB (g := gb386) (o := .cells #[.int .i64 t393, .int .i64 t394, .string t395] 60 (0, 0)) (pxq BK386) k_ hk)); (case aO => exact (pxr HO398)); (case aS => exact (below_size (pxb HB))); (case aL => have := LMc44.out; omega); intro v400 w53 ho hb hg hat; rw [← Ny399.out] at ho; have n0_ := Aside0.mk (blk_grown (g := gb386) (o := .cells #[.int .i64 t393, .int .i64 t394, .string t395] 60 (0, 0)) (pxq BK386) hg (Kd.R_away HO398.out (fun _ hk => hk))); have n1_ := Aside0.mk (hb); have n2_ := Aside0.mk (ho); clear BK386; clear HB; clear HO398; have BK386 := n0_; have HB := n1_; have HO401 := n2_; clear n0_ n1_ n2_; clear ho hb hg hat))
                    go_roundg kj18
                    case measure => have := HK1.out; have := HJ9.out; have := HJ18.out; omega
                    case rel => exact ⟨(y399), (wrap64 (x23_1 + 1)), (by first | rfl | (simp; done) | (simp [*]; done)), H', ⟨by have := HK1.out; have := HJ9.out; have := HJ18.out; omega⟩, ⟨by (with_reducible repeat (first | apply Kd.R_alloc | apply Kd.R_drewN | apply Kd.R_drew)); exact Kd.R_mono HO401.out (fun _ hk => trivial)⟩, ⟨pxb HB⟩⟩
                   ·rw [if_neg c44] at H
                    exact absurd H (by simp)
                 ·rw [if_neg c34] at H
                  have c34b0 : (t393 == t394) = false := beq_eq_false_iff_ne.mpr c34
                  have c34b1 : (t393 != t394) = true := bne_iff_ne.mpr c34
                  by_cases c54 : y396.length < 4398046511104
                  ·rw [if_pos c54] at H
                   have LMc54 := Aside0.mk c54
                   clear c54
                   obtain ⟨y402, hy402⟩ : ∃ y_ : List (S60), y_ = (y396 ++ [(⟨(⟨t393, t394⟩ : S24), t395⟩ : S60)]) := ⟨_, rfl⟩
                   replace H : (edit_Tidy.l0 kj18 a0 y402 l1 (l1.length : Int) (wrap64 (x23_1 + 1))) = some (r1, r2) := by first | (rw [hy402]; with_reducible exact H) | (have H2_ := (Option.bind_some _ _).symm.trans H; rw [hy402]; with_reducible exact H2_) | (have H2_ := (Option.bind_some _ _).symm.trans H; with_reducible exact H2_) | with_reducible exact H | (rw [hy402]; exact H) | exact H
                   have Ny402 := Aside0.mk hy402
                   clear hy402
                   have H' := Aside0.mk H
                   clear H
                   try go_wp2
                   have n0_ := Aside0.mk (Kd.R_drew HO_8.out)
                   have n1_ := Aside0.mk (blk_drew BK386.out)
                   have n2_ := Aside0.mk (below_drew1 HB.out)
                   clear HO_8
                   clear BK386
                   clear HB
                   have HO_8 := n0_
                   have BK386 := n1_
                   have HB := n2_
                   clear n0_ n1_ n2_
                   have p391 : 0 ≤ ((ji28) : Int) := of_decide_eq_true (by first | (with_reducible assumption) | assumption)
                   have q391 : (ji28) < (x8_1.length : Int) := of_decide_eq_true (by first | (with_reducible assumption) | assumption)
                   obtain ⟨ad391, e391, hx391_0, hx391_1, hx391_2⟩ := at_T60 (Kd.R_reads' HO_8.out).2.2 (ji28) p391 q391
                   cases e391
                   replace p391 := eq_true p391
                   replace q391 := eq_true q391
                   have p392 : 0 ≤ ((ji28) : Int) := of_decide_eq_true (by first | (with_reducible assumption) | assumption)
                   have q392 : (ji28) < (x8_1.length : Int) := of_decide_eq_true (by first | (with_reducible assumption) | assumption)
                   obtain ⟨ad392, e392, hx392_0, hx392_1, hx392_2⟩ := at_T60 (Kd.R_reads' HO_8.out).2.2 (ji28) p392 q392
                   obtain rfl : ad391 = ad392 := (by injection e392)
                   replace p392 := eq_true p392
                   replace q392 := eq_true q392
                   refine start_ (n := 24) (S := fun w' => w'.cell? ⟨gb386, 0, none⟩ = some (.int .i64 t387) ∧ w'.cell? ⟨gb386, 1, none⟩ = some (.int .i64 t388) ∧ w'.cell? ⟨gb386, 2, none⟩ = some (.string t389) ∧ w'.cell? (ad391.add (((ji28)).toNat * 3)) = some (.int .i64 ((rd_T60 x8_1 (ji28)).f0.f0)) ∧ w'.cell? ⟨(ad391.add (((ji28)).toNat * 3)).block, (ad391.add (((ji28)).toNat * 3)).off + 1, none⟩ = some (.int .i64 ((rd_T60 x8_1 (ji28)).f0.f1)) ∧ w'.cell? ⟨(ad391.add (((ji28)).toNat * 3)).block, (ad391.add (((ji28)).toNat * 3)).off + 2, none⟩ = some (.string ((rd_T60 x8_1 (ji28)).f1)) ∧ w'.cell? (ad391.add (((ji28)).toNat * 3)) = some (.int .i64 ((rd_T60 x8_1 (ji28)).f0.f0)) ∧ w'.cell? ⟨(ad391.add (((ji28)).toNat * 3)).block, (ad391.add (((ji28)).toNat * 3)).off + 1, none⟩ = some (.int .i64 ((rd_T60 x8_1 (ji28)).f0.f1)) ∧ w'.cell? ⟨(ad391.add (((ji28)).toNat * 3)).block, (ad391.add (((ji28)).toNat * 3)).off + 2, none⟩ = some (.string ((rd_T60 x8_1 (ji28)).f1))) (ds := [23]) #[false, false, false, false, false, false, false, false, false, false, false, false, false, false, false, false, false, false, false, false, false, false, false, false] (by kernel_rfl) rfl rfl ⟨(blk_cell BK386.out 0).trans rfl, (blk_cell BK386.out 1).trans rfl, (blk_cell BK386.out 2).trans rfl, hx391_0, hx391_1, hx391_2, hx392_0, hx392_1, hx392_2⟩ (fun hHeld => ?_); refine with_tabW edit_Tidy.tab12 edit_Tidy.bits12 (fun HT_ HW_ => ?_)
                   generalize wc.drew = w55 at HO_8 BK386 HB hx391_0 hx391_1 hx391_2 hx392_0 hx392_1 hx392_2 hHeld ⊢
                   refine pure_ (i := 0) (N := some 59) (v := ?_) (a' := ?_) #[true, false, false, false, false, false, false, false, false, false, false, false, false, false, false, false, false, false, false, false, false, false, false, false] rfl rfl (any_of HT_.out (by kernel_rfl)) (fun _ _ _ h => h) (Or.inl ⟨by rfl, ?_⟩) ?_ ?_
                   rotate_left
                   ·intro w'
                    go_simp
                    with_reducible rfl
                   rotate_left
                   ·simp only [Act.put, List.setIfInBounds_toArray, List.set_cons_zero, List.set_cons_succ, i64_w, i32_w]
                    rfl
                   refine pure_ (i := 1) (N := some 60) (v := ?_) (a' := ?_) #[true, true, false, false, false, false, false, false, false, false, false, false, false, false, false, false, false, false, false, false, false, false, false, false] rfl rfl (any_of HT_.out (by kernel_rfl)) (fun _ _ _ h => h) (Or.inl ⟨by rfl, ?_⟩) ?_ ?_
                   rotate_left
                   ·intro w'
                    go_simp
                    with_reducible rfl
                   rotate_left
                   ·simp only [Act.put, List.setIfInBounds_toArray, List.set_cons_zero, List.set_cons_succ, i64_w, i32_w]
                    rfl
                   refine pure_ (i := 2) (N := some 61) (v := ?_) (a' := ?_) #[true, true, true, false, false, false, false, false, false, false, false, false, false, false, false, false, false, false, false, false, false, false, false, false] rfl rfl (any_of HT_.out (by kernel_rfl)) (fun _ _ _ h => h) (Or.inl ⟨by rfl, ?_⟩) ?_ ?_
                   rotate_left
                   ·intro w'
                    go_simp
                    with_reducible rfl
                   rotate_left
                   ·simp only [Act.put, List.setIfInBounds_toArray, List.set_cons_zero, List.set_cons_succ, i64_w, i32_w]
                    rfl
                   refine pure_ (i := 3) (N := some 62) (v := ?_) (a' := ?_) #[true, true, true, true, false, false, false, false, false, false, false, false, false, false, false, false, false, false, false, false, false, false, false, false] rfl rfl (any_of HT_.out (by kernel_rfl)) (fun _ _ _ h => h) (Or.inl ⟨by rfl, ?_⟩) ?_ ?_
                   rotate_left
                   ·intro w'
                    go_simp
                    with_reducible rfl
                   rotate_left
                   ·simp only [Act.put, List.setIfInBounds_toArray, List.set_cons_zero, List.set_cons_succ, i64_w, i32_w]
                    rfl
                   refine pure_ (i := 4) (N := some 63) (v := ?_) (a' := ?_) #[true, true, true, true, true, false, false, false, false, false, false, false, false, false, false, false, false, false, false, false, false, false, false, false] rfl rfl (any_of HT_.out (by kernel_rfl)) (fun _ _ _ h => h) (Or.inl ⟨by rfl, ?_⟩) ?_ ?_
                   rotate_left
                   ·intro w'
                    go_simp
                    with_reducible rfl
                   rotate_left
                   ·simp only [Act.put, List.setIfInBounds_toArray, List.set_cons_zero, List.set_cons_succ, i64_w, i32_w]
                    rfl
                   refine pure_ (i := 5) (N := some 64) (v := ?_) (a' := ?_) #[true, true, true, true, true, true, false, false, false, false, false, false, false, false, false, false, false, false, false, false, false, false, false, false] rfl rfl (any_of HT_.out (by kernel_rfl)) (fun _ _ _ h => h) (Or.inl ⟨by rfl, ?_⟩) ?_ ?_
                   rotate_left
                   ·intro w'
                    go_simp
                    with_reducible rfl
                   rotate_left
                   ·simp only [Act.put, List.setIfInBounds_toArray, List.set_cons_zero, List.set_cons_succ, i64_w, i32_w]
                    rfl
                   refine pure_ (i := 6) (N := some 65) (v := ?_) (a' := ?_) #[true, true, true, true, true, true, true, false, false, false, false, false, false, false, false, false, false, false, false, false, false, false, false, false] rfl rfl (any_of HT_.out (by kernel_rfl)) (fun _ _ _ h => h) (Or.inl ⟨by rfl, ?_⟩) ?_ ?_
                   rotate_left
                   ·intro w'
                    go_simp
                    with_reducible rfl
                   rotate_left
                   ·simp only [Act.put, List.setIfInBounds_toArray, List.set_cons_zero, List.set_cons_succ, i64_w, i32_w]
                    rfl
                   refine pure_ (i := 8) (N := some 67) (v := ?_) (a' := ?_) #[true, true, true, true, true, true, true, false, true, false, false, false, false, false, false, false, false, false, false, false, false, false, false, false] rfl rfl (any_of HT_.out (by kernel_rfl)) (fun _ _ _ h => h) (Or.inl ⟨by rfl, ?_⟩) ?_ ?_
                   rotate_left
                   ·intro w'
                    go_simp
                    with_reducible rfl
                   rotate_left
                   ·simp only [Act.put, List.setIfInBounds_toArray, List.set_cons_zero, List.set_cons_succ, i64_w, i32_w]
                    rfl
                   refine pure_ (i := 9) (N := some 68) (v := ?_) (a' := ?_) #[true, true, true, true, true, true, true, false, true, true, false, false, false, false, false, false, false, false, false, false, false, false, false, false] rfl rfl (any_of HT_.out (by kernel_rfl)) (fun _ _ _ h => h) (Or.inl ⟨by rfl, ?_⟩) ?_ ?_
                   rotate_left
                   ·intro w'
                    go_simp
                    with_reducible rfl
                   rotate_left
                   ·simp only [Act.put, List.setIfInBounds_toArray, List.set_cons_zero, List.set_cons_succ, i64_w, i32_w]
                    rfl
                   refine pure_ (i := 12) (N := some 71) (v := ?_) (a' := ?_) #[true, true, true, true, true, true, true, false, true, true, false, false, true, false, false, false, false, false, false, false, false, false, false, false] rfl rfl (any_of HT_.out (by kernel_rfl)) (fun _ _ _ h => h) (Or.inl ⟨by rfl, ?_⟩) ?_ ?_
                   rotate_left
                   ·intro w'
                    go_simp
                    with_reducible rfl
                   rotate_left
                   ·simp only [Act.put, List.setIfInBounds_toArray, List.set_cons_zero, List.set_cons_succ, i64_w, i32_w]
                    rfl
                   refine pure_ (i := 13) (N := some 72) (v := ?_) (a' := ?_) #[true, true, true, true, true, true, true, false, true, true, false, false, true, true, false, false, false, false, false, false, false, false, false, false] rfl rfl (any_of HT_.out (by kernel_rfl)) (fun _ _ _ h => h) (Or.inl ⟨by rfl, ?_⟩) ?_ ?_
                   rotate_left
                   ·intro w'
                    go_simp
                    with_reducible rfl
                   rotate_left
                   ·simp only [Act.put, List.setIfInBounds_toArray, List.set_cons_zero, List.set_cons_succ, i64_w, i32_w]
                    rfl
                   refine pure_ (i := 14) (N := some 73) (v := ?_) (a' := ?_) #[true, true, true, true, true, true, true, false, true, true, false, false, true, true, true, false, false, false, false, false, false, false, false, false] rfl rfl (any_of HT_.out (by kernel_rfl)) (fun _ _ _ h => h) (Or.inl ⟨by rfl, ?_⟩) ?_ ?_
                   rotate_left
                   ·intro w'
                    go_simp
                    with_reducible rfl
                   rotate_left
                   ·simp only [Act.put, List.setIfInBounds_toArray, List.set_cons_zero, List.set_cons_succ, i64_w, i32_w]
                    rfl
                   refine pure_ (i := 15) (N := some 74) (v := ?_) (a' := ?_) #[true, true, true, true, true, true, true, false, true, true, false, false, true, true, true, true, false, false, false, false, false, false, false, false] rfl rfl (any_of HT_.out (by kernel_rfl)) (fun _ _ _ h => h) (Or.inl ⟨by rfl, ?_⟩) ?_ ?_
                   rotate_left
                   ·intro w'
                    go_simp
                    with_reducible rfl
                   rotate_left
                   ·simp only [Act.put, List.setIfInBounds_toArray, List.set_cons_zero, List.set_cons_succ, i64_w, i32_w]
                    rfl
                   refine pure_ (i := 16) (N := some 75) (v := ?_) (a' := ?_) #[true, true, true, true, true, true, true, false, true, true, false, false, true, true, true, true, true, false, false, false, false, false, false, false] rfl rfl (any_of HT_.out (by kernel_rfl)) (fun _ _ _ h => h) (Or.inl ⟨by rfl, ?_⟩) ?_ ?_
                   rotate_left
                   ·intro w'
                    go_simp
                    with_reducible rfl
                   rotate_left
                   ·simp only [Act.put, List.setIfInBounds_toArray, List.set_cons_zero, List.set_cons_succ, i64_w, i32_w]
                    rfl
                   refine pure_ (i := 18) (N := some 77) (v := ?_) (a' := ?_) #[true, true, true, true, true, true, true, false, true, true, false, false, true, true, true, true, true, false, true, false, false, false, false, false] rfl rfl (any_of HT_.out (by kernel_rfl)) (fun _ _ _ h => h) (Or.inl ⟨by rfl, ?_⟩) ?_ ?_
                   rotate_left
                   ·intro w'
                    go_simp
                    with_reducible rfl
                   rotate_left
                   ·simp only [Act.put, List.setIfInBounds_toArray, List.set_cons_zero, List.set_cons_succ, i64_w, i32_w]
                    rfl
                   refine take_ (i := 7) (N := some 66) (v := ?_) (a' := ?_) #[true, true, true, true, true, true, true, true, true, true, false, false, true, true, true, true, true, false, true, false, false, false, false, false] rfl rfl (take_ofW HT_.out HW_.out (by kernel_rfl)) (fun _ _ _ h => h) (Or.inl ⟨by rfl, ?_⟩) hHeld ?_ ?_
                   rotate_left
                   ·rintro w' ⟨s0, s1, s2, s3, s4, s5, s6, s7, s8⟩
                    go_simp
                    with_reducible rfl
                   rotate_left
                   ·simp only [Act.put, List.setIfInBounds_toArray, List.set_cons_zero, List.set_cons_succ, i64_w, i32_w]
                    rfl
                   refine take_ (i := 10) (N := some 69) (v := ?_) (a' := ?_) #[true, true, true, true, true, true, true, true, true, true, true, false, true, true, true, true, true, false, true, false, false, false, false, false] rfl rfl (take_ofW HT_.out HW_.out (by kernel_rfl)) (fun _ _ _ h => h) (Or.inl ⟨by rfl, ?_⟩) hHeld ?_ ?_
                   rotate_left
                   ·rintro w' ⟨s0, s1, s2, s3, s4, s5, s6, s7, s8⟩
                    go_simp
                    with_reducible rfl
                   rotate_left
                   ·simp only [Act.put, List.setIfInBounds_toArray, List.set_cons_zero, List.set_cons_succ, i64_w, i32_w]
                    rfl
                   refine pure_ (i := 11) (N := some 70) (v := ?_) (a' := ?_) #[true, true, true, true, true, true, true, true, true, true, true, true, true, true, true, true, true, false, true, false, false, false, false, false] rfl rfl (any_of HT_.out (by kernel_rfl)) (fun _ _ _ h => h) (Or.inl ⟨by rfl, ?_⟩) ?_ ?_
                   rotate_left
                   ·intro w'
                    go_simp
                    with_reducible rfl
                   rotate_left
                   ·simp only [Act.put, List.setIfInBounds_toArray, List.set_cons_zero, List.set_cons_succ, i64_w, i32_w]
                    rfl
                   refine take_ (i := 17) (N := some 76) (v := ?_) (a' := ?_) #[true, true, true, true, true, true, true, true, true, true, true, true, true, true, true, true, true, true, true, false, false, false, false, false] rfl rfl (take_ofW HT_.out HW_.out (by kernel_rfl)) (fun _ _ _ h => h) (Or.inl ⟨by rfl, ?_⟩) hHeld ?_ ?_
                   rotate_left
                   ·rintro w' ⟨s0, s1, s2, s3, s4, s5, s6, s7, s8⟩
                    go_simp
                    with_reducible rfl
                   rotate_left
                   ·simp only [Act.put, List.setIfInBounds_toArray, List.set_cons_zero, List.set_cons_succ, i64_w, i32_w]
                    rfl
                   refine take_ (i := 19) (N := some 78) (v := ?_) (a' := ?_) #[true, true, true, true, true, true, true, true, true, true, true, true, true, true, true, true, true, true, true, true, false, false, false, false] rfl rfl (take_ofW HT_.out HW_.out (by kernel_rfl)) (fun _ _ _ h => h) (Or.inl ⟨by rfl, ?_⟩) hHeld ?_ ?_
                   rotate_left
                   ·rintro w' ⟨s0, s1, s2, s3, s4, s5, s6, s7, s8⟩
                    go_simp
                    with_reducible rfl
                   rotate_left
                   ·simp only [Act.put, List.setIfInBounds_toArray, List.set_cons_zero, List.set_cons_succ, i64_w, i32_w]
                    rfl
                   refine pure_ (i := 20) (N := some 79) (v := ?_) (a' := ?_) #[true, true, true, true, true, true, true, true, true, true, true, true, true, true, true, true, true, true, true, true, true, false, false, false] rfl rfl (any_of HT_.out (by kernel_rfl)) (fun _ _ _ h => h) (Or.inl ⟨by rfl, ?_⟩) ?_ ?_
                   rotate_left
                   ·intro w'
                    go_simp
                    with_reducible rfl
                   rotate_left
                   ·simp only [Act.put, List.setIfInBounds_toArray, List.set_cons_zero, List.set_cons_succ, i64_w, i32_w]
                    rfl
                   refine pure_ (i := 21) (N := some 80) (v := ?_) (a' := ?_) #[true, true, true, true, true, true, true, true, true, true, true, true, true, true, true, true, true, true, true, true, true, true, false, false] rfl rfl (any_of HT_.out (by kernel_rfl)) (fun _ _ _ h => h) (Or.inl ⟨by rfl, ?_⟩) ?_ ?_
                   rotate_left
                   ·intro w'
                    go_simp
                    with_reducible rfl
                   rotate_left
                   ·simp only [Act.put, List.setIfInBounds_toArray, List.set_cons_zero, List.set_cons_succ, i64_w, i32_w]
                    rfl
                   refine one_ (i := 22) (N := some 81) #[true, true, true, true, true, true, true, true, true, true, true, true, true, true, true, true, true, true, true, true, true, true, true, false] rfl rfl (one_of HT_.out (by kernel_rfl)) (by decide) (fun K hK => ?_)
                   refine goes_ Try.func45 (by kernel_rfl) rfl #[.string a0, .agg #[.int .i64 ((rd_T60 x8_1 (ji28)).f0.f0), .int .i64 t388, .string (((rd_T60 x8_1 (ji28)).f1) ++ t389)]] (by rfl) rfl rfl (by (try simp only [List.map_toArray, List.map_cons, List.map_nil]); first | done | (simp only [hji28]; rfl) | rfl | (simp only [List.length_drop, List.length_take]; rfl)) ?_
                   with_reducible refine (edit_trim.calls kj18 a0 ((rd_T60 x8_1 (ji28)).f0.f0) t388 (((rd_T60 x8_1 (ji28)).f1) ++ t389) t393 t394 t395 _ A32.out).mono ?_
                   rintro e w56 ⟨rfl, hb⟩
                   have HS3_ := (hb.cell (World.block_lt_of_cell? _ _ (hHeld.2.2.2.1))).trans (hHeld.2.2.2.1)
                   have HS4_ := (hb.cell (World.block_lt_of_cell? _ _ (hHeld.2.2.2.2.1))).trans (hHeld.2.2.2.2.1)
                   have HS5_ := (hb.cell (World.block_lt_of_cell? _ _ (hHeld.2.2.2.2.2.1))).trans (hHeld.2.2.2.2.2.1)
                   have HS6_ := (hb.cell (World.block_lt_of_cell? _ _ (hHeld.2.2.2.2.2.2.1))).trans (hHeld.2.2.2.2.2.2.1)
                   have HS7_ := (hb.cell (World.block_lt_of_cell? _ _ (hHeld.2.2.2.2.2.2.2.1))).trans (hHeld.2.2.2.2.2.2.2.1)
                   have HS8_ := (hb.cell (World.block_lt_of_cell? _ _ (hHeld.2.2.2.2.2.2.2.2))).trans (hHeld.2.2.2.2.2.2.2.2)
                   refine ⟨_, rfl, ?_⟩
                   have n0_ := Aside0.mk (Kd.R_below (pxr HO_8) hb)
                   have n1_ := pxk BK386 hb
                   have n2_ := pxs HB hb
                   clear HO_8
                   clear BK386
                   clear HB
                   have HO_8 := n0_
                   have BK386 := n1_
                   have HB := n2_
                   clear n0_ n1_ n2_
                   (try clear hb)
                   (try clear hb2)
                   (try clear hk)
                   (try clear hi)
                   refine hK.out _ _ ⟨(blk_cell BK386.out 0).trans rfl, (blk_cell BK386.out 1).trans rfl, (blk_cell BK386.out 2).trans rfl, HS3_, HS4_, HS5_, HS6_, HS7_, HS8_⟩ (fun hHeld => ?_)
                   clear hK K
                   refine norm_ (a' := ?_) ?_ ?_
                   rotate_left
                   ·show Act.put _ (some 81) _ = _
                    simp only [Act.put, List.setIfInBounds_toArray, List.set_cons_zero, List.set_cons_succ, i64_w, i32_w]
                    rfl
                   refine last_ (i := 23) (N := none) #[true, true, true, true, true, true, true, true, true, true, true, true, true, true, true, true, true, true, true, true, true, true, true, true] rfl rfl (one_of HT_.out (by kernel_rfl)) (by decide) (fun K hK => ?_)
                   have hs57 : w56.cell? ⟨gb386, 0, none⟩ = some (.int .i64 t387) := (blk_cell BK386.out 0).trans rfl
                   have hfs57 := blk_frozen BK386.out 0
                   have hs58 : w56.cell? ⟨gb386, 1, none⟩ = some (.int .i64 t388) := (blk_cell BK386.out 1).trans rfl
                   have hfs58 := blk_frozen BK386.out 1
                   have hs59 : w56.cell? ⟨gb386, 2, none⟩ = some (.string t389) := (blk_cell BK386.out 2).trans rfl
                   have hfs59 := blk_frozen BK386.out 2
                   refine skip_ (w1 := ?_) (by rfl) rfl ?_ ?_
                   rotate_left
                   ·go_simp
                    rfl
                   refine hK.out _ _ ?_
                   clear hK K
                   refine done_ (done_of HT_.out (by kernel_rfl)) ?_
                   have n0_ : Aside0 (Kd.R k60 60 (((w56.setCell ⟨gb386, 0, none⟩ (.int .i64 t393)).setCell ⟨gb386, 1, none⟩ (.int .i64 t394)).setCell ⟨gb386, 2, none⟩ (.string t395)) w.heap.size (fun k_ => k_ ≠ gb386) (.slice (some ad391) x8_1.length co20) x8_1) := ⟨by (with_reducible repeat (first | apply Kd.R_alloc | apply Kd.R_drewN | apply Kd.R_drew)); exact Kd.R_mono (Kd.R_far (p := ⟨gb386, 2, none⟩) (Kd.R_far (p := ⟨gb386, 1, none⟩) (Kd.R_far (p := ⟨gb386, 0, none⟩) (Kd.R_mono HO_8.out (fun k_ hk => (⟨hk, hk⟩ : _ ∧ k_ ≠ gb386))) (fun _ hk => hk.2) (.int .i64 t393)) (fun _ hk => hk.2) (.int .i64 t394)) (fun _ hk => hk.2) (.string t395)) (fun _ hk => hk.1)⟩
                   have n1_ : Aside0 ((((w56.setCell ⟨gb386, 0, none⟩ (.int .i64 t393)).setCell ⟨gb386, 1, none⟩ (.int .i64 t394)).setCell ⟨gb386, 2, none⟩ (.string t395)).heap[gb386]? = some (.cells #[.int .i64 t393, .int .i64 t394, .string t395] 60 (0, 0))) := ⟨by (with_reducible repeat (first | refine blk_drewN ?_ _ | refine blk_drew ?_ | refine blk_alloc ?_ _)); refine blk_put (cs := #[.int .i64 t393, .int .i64 t394, .string t389]) ?_ 2 _ rfl; (with_reducible repeat (first | refine blk_drewN ?_ _ | refine blk_drew ?_ | refine blk_alloc ?_ _)); refine blk_put (cs := #[.int .i64 t393, .int .i64 t388, .string t389]) ?_ 1 _ rfl; (with_reducible repeat (first | refine blk_drewN ?_ _ | refine blk_drew ?_ | refine blk_alloc ?_ _)); refine blk_put (cs := #[.int .i64 t387, .int .i64 t388, .string t389]) ?_ 0 _ rfl; (with_reducible repeat (first | refine blk_drewN ?_ _ | refine blk_drew ?_ | refine blk_alloc ?_ _)); exact BK386.out⟩
                   have n2_ : Aside0 (Below w.heap.size w (((w56.setCell ⟨gb386, 0, none⟩ (.int .i64 t393)).setCell ⟨gb386, 1, none⟩ (.int .i64 t394)).setCell ⟨gb386, 2, none⟩ (.string t395))) := ⟨pxb HB⟩
                   (try clear HO_8)
                   (try clear BK386)
                   (try clear HB)
                   generalize (((w56.setCell ⟨gb386, 0, none⟩ (.int .i64 t393)).setCell ⟨gb386, 1, none⟩ (.int .i64 t394)).setCell ⟨gb386, 2, none⟩ (.string t395)) = w60 at n0_ n1_ n2_ ⊢
                   have HO_8 := n0_
                   have BK386 := n1_
                   have HB := n2_
                   clear n0_ n1_ n2_
                   have q61 : ((ji28) : Int) ≤ ((x8_1.length : Int) : Int) := of_decide_eq_true (by first | (with_reducible assumption) | assumption)
                   obtain ⟨i061, hi061, _, hsz61, _⟩ := info_parts info60
                   have hcut61 := cut_to (P := Try.prog) 50 60 .i64 Try.underlying50 hi061 (some ad391) x8_1.length co20 (ji28) (of_decide_eq_true (by first | (with_reducible assumption) | assumption)) q61 (Kd.R_reads' HO_8.out).2.1
                   have hr61 := Kd.R_take (m := ((ji28) : Int).toNat) HO_8.out (by omega)
                   have hy61 : y396.length = ((ji28) : Int).toNat := (by rw [Ny396.out, List.length_take]; omega)
                   rw [← Ny396.out] at hr61
                   rw [← hy61] at hr61 hcut61
                   clear hy61 hi061 hsz61 HO_8
                   have HO398 := Aside0.mk hr61
                   clear hr61
                   replace q61 := eq_true q61
                   have hcz62_0 : w60.cell? ⟨gb386, 0, none⟩ = some (.int .i64 t393) := (blk_cell BK386.out 0).trans rfl
                   have hcz62_1 : w60.cell? ⟨gb386, 1, none⟩ = some (.int .i64 t394) := (blk_cell BK386.out 1).trans rfl
                   have hcz62_2 : w60.cell? ⟨gb386, 2, none⟩ = some (.string t395) := (blk_cell BK386.out 2).trans rfl
                   have hfz62_0 := blk_frozen BK386.out 0
                   have hfz62_1 := blk_frozen BK386.out 1
                   have hfz62_2 := blk_frozen BK386.out 2
                   try go_wp2_with (first | ((with_reducible refine gate_builtin (b := .append) (xs := #[.tmp 98, .tmp 100]) rfl ?_); at_builtin; refine Kd.R_append k60 (w0 := w) w.heap.size rfl (.tmp 98) (.tmp 100) 50 60 (.agg #[(.int .i64 0), (.int .i64 0), (.string ⟨#[]⟩)]) 32 rfl Try.underlying50 info60 rfl (by decide) (by omega) (.slice (some ad391) y396.length co20) y396 (⟨(⟨t393, t394⟩ : S24), t395⟩ : S60) [.int .i64 t393, .int .i64 t394, .string t395] (fun k_ => k_ ≠ gb386) (fun _ => False) rfl rfl ?aP (fun _ hk => hk.elim) ?aF ?aO ?aB ?aS ?aL ?_; (case aP => exact k60_mkM _ _ _ (⟨(⟨t393, t394⟩ : S24), t395⟩ : S60)); (case aB => exact (pxb HB)); (case aF => exact (fun k_ hk => Kd.freshB (g := gb386) (o := .cells #[.int .i64 t393, .int .i64 t394, .string t395] 60 (0, 0)) (pxq BK386) k_ hk)); (case aO => exact (pxr HO398)); (case aS => exact (below_size (pxb HB))); (case aL => have := LMc54.out; omega); intro v403 w63 ho hb hg hat; rw [← Ny402.out] at ho; have n0_ := Aside0.mk (blk_grown (g := gb386) (o := .cells #[.int .i64 t393, .int .i64 t394, .string t395] 60 (0, 0)) (pxq BK386) hg (Kd.R_away HO398.out (fun _ hk => hk))); have n1_ := Aside0.mk (hb); have n2_ := Aside0.mk (ho); clear BK386; clear HB; clear HO398; have BK386 := n0_; have HB := n1_; have HO404 := n2_; clear n0_ n1_ n2_; clear ho hb hg hat))
                   go_roundg kj18
                   case measure => have := HK1.out; have := HJ9.out; have := HJ18.out; omega
                   case rel => exact ⟨(y402), (wrap64 (x23_1 + 1)), (by first | rfl | (simp; done) | (simp [*]; done)), H', ⟨by have := HK1.out; have := HJ9.out; have := HJ18.out; omega⟩, ⟨by (with_reducible repeat (first | apply Kd.R_alloc | apply Kd.R_drewN | apply Kd.R_drew)); exact Kd.R_mono HO404.out (fun _ hk => trivial)⟩, ⟨pxb HB⟩⟩
                  ·rw [if_neg c54] at H
                   exact absurd H (by simp)
                ·rw [if_neg c33] at H
                 exact absurd H (by simp)
               ·rw [if_neg c31] at H
                exact absurd H (by simp)
              ·rw [if_neg c30] at H
               exact absurd H (by simp)
             ·rw [if_neg c29] at H
              exact absurd H (by simp)
            ·replace c27 := Bool.eq_false_iff.mpr c27
             subst c27
             have H1 : (if x8_1.length < 4398046511104 then (edit_Tidy.l0 kj18 a0 (x8_1 ++ [(⟨(⟨t387, t388⟩ : S24), t389⟩ : S60)]) l1 (l1.length : Int) (wrap64 (x23_1 + 1))) else (none)) = some (r1, r2) := by rw [if_neg (show ¬ (false = true) by decide)] at H; exact H
             clear H
             have H := H1
             clear H1
             by_cases c64 : x8_1.length < 4398046511104
             ·rw [if_pos c64] at H
              have LMc64 := Aside0.mk c64
              clear c64
              obtain ⟨y405, hy405⟩ : ∃ y_ : List (S60), y_ = (x8_1 ++ [(⟨(⟨t387, t388⟩ : S24), t389⟩ : S60)]) := ⟨_, rfl⟩
              replace H : (edit_Tidy.l0 kj18 a0 y405 l1 (l1.length : Int) (wrap64 (x23_1 + 1))) = some (r1, r2) := by first | (rw [hy405]; with_reducible exact H) | (have H2_ := (Option.bind_some _ _).symm.trans H; rw [hy405]; with_reducible exact H2_) | (have H2_ := (Option.bind_some _ _).symm.trans H; with_reducible exact H2_) | with_reducible exact H | (rw [hy405]; exact H) | exact H
              have Ny405 := Aside0.mk hy405
              clear hy405
              have H' := Aside0.mk H
              clear H
              have hcz65_0 : wc.cell? ⟨gb386, 0, none⟩ = some (.int .i64 t387) := (blk_cell BK386.out 0).trans rfl
              have hcz65_1 : wc.cell? ⟨gb386, 1, none⟩ = some (.int .i64 t388) := (blk_cell BK386.out 1).trans rfl
              have hcz65_2 : wc.cell? ⟨gb386, 2, none⟩ = some (.string t389) := (blk_cell BK386.out 2).trans rfl
              have hfz65_0 := blk_frozen BK386.out 0
              have hfz65_1 := blk_frozen BK386.out 1
              have hfz65_2 := blk_frozen BK386.out 2
              go_wp2_with (first | ((with_reducible refine gate_builtin (b := .append) (xs := #[.tmp 98, .tmp 100]) rfl ?_); at_builtin; refine Kd.R_append k60 (w0 := w) w.heap.size rfl (.tmp 98) (.tmp 100) 50 60 (.agg #[(.int .i64 0), (.int .i64 0), (.string ⟨#[]⟩)]) 32 rfl Try.underlying50 info60 rfl (by decide) (by omega) (.slice Ao20 x8_1.length co20) x8_1 (⟨(⟨t387, t388⟩ : S24), t389⟩ : S60) [.int .i64 t387, .int .i64 t388, .string t389] (fun k_ => k_ ≠ gb386) (fun _ => False) rfl rfl ?aP (fun _ hk => hk.elim) ?aF ?aO ?aB ?aS ?aL ?_; (case aP => exact k60_mkM _ _ _ (⟨(⟨t387, t388⟩ : S24), t389⟩ : S60)); (case aB => exact (pxb HB)); (case aF => exact (fun k_ hk => Kd.freshB (g := gb386) (o := .cells #[.int .i64 t387, .int .i64 t388, .string t389] 60 (0, 0)) (pxq BK386) k_ hk)); (case aO => exact (pxr HO_8)); (case aS => exact (below_size (pxb HB))); (case aL => have := LMc64.out; omega); intro v406 w66 ho hb hg hat; rw [← Ny405.out] at ho; have n0_ := Aside0.mk (blk_grown (g := gb386) (o := .cells #[.int .i64 t387, .int .i64 t388, .string t389] 60 (0, 0)) (pxq BK386) hg (Kd.R_away HO_8.out (fun _ hk => hk))); have n1_ := Aside0.mk (hb); have n2_ := Aside0.mk (ho); clear BK386; clear HB; clear HO_8; have BK386 := n0_; have HB := n1_; have HO407 := n2_; clear n0_ n1_ n2_; clear ho hb hg hat))
              go_roundg kj18
              case measure => have := HK1.out; have := HJ9.out; have := HJ18.out; omega
              case rel => exact ⟨(y405), (wrap64 (x23_1 + 1)), (by first | rfl | (simp; done) | (simp [*]; done)), H', ⟨by have := HK1.out; have := HJ9.out; have := HJ18.out; omega⟩, ⟨by (with_reducible repeat (first | apply Kd.R_alloc | apply Kd.R_drewN | apply Kd.R_drew)); exact Kd.R_mono HO407.out (fun _ hk => trivial)⟩, ⟨pxb HB⟩⟩
             ·rw [if_neg c64] at H
              exact absurd H (by simp)
      ·rw [if_neg c8] at H
       exact absurd H (by simp)
     ·rw [if_neg c7] at H
      exact absurd H (by simp)
    ·rw [if_neg c6] at H
     have c6b0 : decide (x23_1 < (l1.length : Int)) = false := decide_eq_false c6
     clear c6
     simp only [Option.some.injEq, Prod.mk.injEq] at H
     obtain ⟨rfl, rfl⟩ := H
     go_wp2
     go_ret2
     exact ⟨_, by first | rfl | (simp [errW_none, errW_some] <;> rfl) | (simp [*, errW_none, errW_some] <;> rfl), pxr HO_8, pxb HB⟩
 ·rw [if_neg c4] at H
  have c4b0 : (t384 == 0) = false := beq_eq_false_iff_ne.mpr c4
  have c4b1 : (t384 != 0) = true := bne_iff_ne.mpr c4
  simp only [Option.some.injEq, Prod.mk.injEq] at H
  obtain ⟨rfl, rfl⟩ := H
  go_enter Try.func37, Try.ntmps37
  go_wp2_with (first | ((with_reducible refine gate_callee (f := 31) rfl ?_); refine goesL_ (some 15) rfl rfl Try.func31 (by kernel_rfl) rfl #[.string a0, .slice A1 l1.length c1] rfl (by (try simp only [List.map_toArray, List.map_cons, List.map_nil]); first | done | rfl | (simp only [List.length_drop, List.length_take]; rfl)) ?_; (with_reducible refine (edit_Apply.calls k a0 _ _ l1 t383 t384 _ ?side1 ?side2 A3.out).mono ?_); (case side1 => repeat (first | exact HR1.out | (with_reducible refine Kd.C_alloc ?_ _) | (with_reducible refine Kd.C_drewN ?_ _) | (with_reducible refine Kd.C_drew ?_))); (case side2 => exact HC1.out); rintro e w67 ⟨rfl, hb⟩; refine ⟨_, rfl, ?_⟩; have n0_ := pxs HB hb; clear HB; have HB := n0_; clear n0_; (try clear hb); (try clear hb2); (try clear hk); (try clear hi)))
  go_ret2
  exact ⟨_, by first | rfl | (simp [errW_none, errW_some] <;> rfl) | (simp [*, errW_none, errW_some] <;> rfl), by first | exact Kd.R_nil _ _ _ _ _ | exact Kd.N_nil _ _ _ _ _ | exact Kd.V_nil _ _ _ _ _ | exact Kd.Q_nil _ _ _ _ _ | exact Kd.S_nil _ _ _ _ _, pxb HB⟩

end Go.Proofs.Ytfnemjejfccecaa.X
