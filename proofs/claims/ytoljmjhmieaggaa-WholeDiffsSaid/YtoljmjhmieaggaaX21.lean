/- What the program's functions answer, as Lean functions, and that each call does just that; no condition. Written by a program (px.py) out of the translation. -/
import Derived.Test.YtoljmjhmieaggaaM2
import Derived.Test.YtoljmjhmieaggaaX22
import Derived.Test.YtoljmjhmieaggaaX20
import Derived.Test.YtoljmjhmieaggaaX34
import Derived.Test.YtoljmjhmieaggaaX33
import Derived.Test.YtoljmjhmieaggaaX35
import Derived.Test.YtoljmjhmieaggaaX36
import Derived.Test.YtoljmjhmieaggaaShort2
namespace Go.Proofs.Ytoljmjhmieaggaa.X
open Go.RowKit Go.Proofs.YtoljmjhmieaggaaW.PrintWords Go.Proofs.YtoljmjhmieaggaaW.PrintLast Go.Proofs.YtoljmjhmieaggaaW.PrintMore
attribute [local go_sem] max2_int min2_int max_two min_two max_three min_three max_four min_four   -- for this text's walks alone
set_option linter.unusedVariables false
set_option linter.unusedSimpArgs false

/-! ### edit_Then: function 21 -/
def edit_Then.l0 : Nat → ByteArray → List (S73) → List (S73) → Int → List (S41) → Int → Int → Option ((List (S41)) × Int)
 | 0, _, _, _, _, _, _, _ => none
 | k + 1, x0, x12, x13, x14, x47, x48, x49 => if x49 < x48 then (if 0 ≤ x49 then (if x49 < (x47.length : Int) then ((edit_cut.f k x12 x14 ((rd_T41 x47 x49).f0.f0)).bind fun t482 => (if x13.length + t482.length < 5864062014805 then ((some (x13 ++ t482 : List (S73))).bind fun y485 => (if ((rd_T41 x47 x49).f1).toList = ([] : List UInt8) then (edit_Then.l0 k x0 x12 y485 ((rd_T41 x47 x49).f0.f1) x47 x48 (wrap64 (x49 + 1))) else (if y485.length < 5864062014805 then (edit_Then.l0 k x0 x12 (y485 ++ [(⟨(rd_T41 x47 x49).f1, (-1)⟩ : S73)]) ((rd_T41 x47 x49).f0.f1) x47 x48 (wrap64 (x49 + 1))) else (none)))) else (none))) else (none)) else (none)) else ((edit_between.f k (x0.size : Int) x13).bind fun t491 => ((edit_Tidy.f k x0 t491).bind fun bt494 => (some (bt494.1, bt494.2))))
def edit_Then.f (k : Nat) (a0 : ByteArray) (l1 : List (S41)) (l2 : List (S41)) : Option ((List (S41)) × Int) := (edit_Apply.f k a0 l1).bind fun bt467 => (if bt467.2 = 0 then ((edit_Apply.f k bt467.1 l2).bind fun bt469 => (if bt469.2 = 0 then ((edit_pieces.f k a0 l1).bind fun t471 => ((api_Edit.f l2).bind fun t474 => (if t474.length < 4398046511104 then ((some (t474 ++ [(⟨(⟨(bt467.1.size : Int), (bt467.1.size : Int)⟩ : S39), (⟨#[]⟩ : ByteArray)⟩ : S41)] : List (S41))).bind fun y477 => (edit_Then.l0 k a0 t471 ([] : List (S73)) 0 y477 (y477.length : Int) 0)) else (none)))) else (some (([] : List (S41)), bt469.2)))) else (some (([] : List (S41)), bt467.2)))
theorem edit_Then.mono_l : ∀ k, (∀ y0 y1 y2 y3 y4 y5 y6, LeO (edit_Then.l0 k y0 y1 y2 y3 y4 y5 y6) (edit_Then.l0 (k + 1) y0 y1 y2 y3 y4 y5 y6))
 | 0 => fun _ _ _ _ _ _ _ r h => by simp [edit_Then.l0] at h
 | k + 1 => by
  have ih0 := edit_Then.mono_l k
  ·intro y0 y1 y2 y3 y4 y5 y6
   unfold edit_Then.l0
   repeat' first
   | (with_reducible exact ih0 _ _ _ _ _ _ _)
   | (with_reducible exact edit_Apply.mono _ _ _)
   | (with_reducible exact edit_Tidy.mono _ _ _)
   | (with_reducible exact edit_between.mono _ _ _)
   | (with_reducible exact edit_cut.mono _ _ _ _)
   | (with_reducible exact edit_pieces.mono _ _ _)
   | (with_reducible exact LeO.refl _)
   | (with_reducible exact LeO.none _)
   | (with_reducible refine LeO.ite ?_ ?_)
   | (with_reducible refine LeO.bind ?_ (fun _ => ?_))
   | exact ih0 _ _ _ _ _ _ _
   | exact edit_Apply.mono _ _ _
   | exact edit_Tidy.mono _ _ _
   | exact edit_between.mono _ _ _
   | exact edit_cut.mono _ _ _ _
   | exact edit_pieces.mono _ _ _
   | exact LeO.none _
   | refine LeO.ite ?_ ?_
   | refine LeO.bind ?_ (fun _ => ?_)
theorem edit_Then.mono : ∀ a0 a1 a2 k, LeO (edit_Then.f k a0 a1 a2) (edit_Then.f (k + 1) a0 a1 a2) := by
 intro a0 a1 a2 k
 have ih0 := edit_Then.mono_l k
 unfold edit_Then.f
 repeat' first
   | (with_reducible exact ih0 _ _ _ _ _ _ _)
   | (with_reducible exact edit_Apply.mono _ _ _)
   | (with_reducible exact edit_Tidy.mono _ _ _)
   | (with_reducible exact edit_between.mono _ _ _)
   | (with_reducible exact edit_cut.mono _ _ _ _)
   | (with_reducible exact edit_pieces.mono _ _ _)
   | (with_reducible exact LeO.refl _)
   | (with_reducible exact LeO.none _)
   | (with_reducible refine LeO.ite ?_ ?_)
   | (with_reducible refine LeO.bind ?_ (fun _ => ?_))
   | exact ih0 _ _ _ _ _ _ _
   | exact edit_Apply.mono _ _ _
   | exact edit_Tidy.mono _ _ _
   | exact edit_between.mono _ _ _
   | exact edit_cut.mono _ _ _ _
   | exact edit_pieces.mono _ _ _
   | exact LeO.none _
   | refine LeO.ite ?_ ?_
   | refine LeO.bind ?_ (fun _ => ?_)
set_option maxHeartbeats 8000000 in
set_option maxRecDepth 100000 in
theorem edit_Then.calls (k : Nat) (a0 : ByteArray) (A1 : Option Addr) (c1 : Nat) (l1 : List (S41)) (A2 : Option Addr) (c2 : Nat) (l2 : List (S41)) (r1 : List (S41)) (r2 : Int) (w : World) (hr1 : Kd.C k41 w A1 l1.length l1) (hc1 : l1.length ≤ c1) (hr2 : Kd.C k41 w A2 l2.length l2) (hc2 : l2.length ≤ c2) (h : edit_Then.f k a0 l1 l2 = some (r1, r2)) :
  Calls Try.prog 21 #[.string a0, .slice A1 l1.length c1, .slice A2 l2.length c2] w fun e w' => ∃ v0_ : Value, e = .returned (.tuple #[v0_, .int .i64 r2]) ∧ Kd.R k41 41 w' w.heap.size (fun _ => True) v0_ r1 ∧ Below w.heap.size w w' := by
 have hu39 := Try.underlying39
 have hu41 := Try.underlying41
 have hu73 := Try.underlying73
 have HR1 := Aside0.mk hr1
 have HC1 := Aside0.mk hc1
 clear hr1 hc1
 have HR2 := Aside0.mk hr2
 have HC2 := Aside0.mk hc2
 clear hr2 hc2
 have HB := Aside0.mk (Below.refl w.heap.size w)
 have H : ((edit_Apply.f k a0 l1).bind fun bt467 => (if bt467.2 = 0 then ((edit_Apply.f k bt467.1 l2).bind fun bt469 => (if bt469.2 = 0 then ((edit_pieces.f k a0 l1).bind fun t471 => ((api_Edit.f l2).bind fun t474 => (if t474.length < 4398046511104 then ((some (t474 ++ [(⟨(⟨(bt467.1.size : Int), (bt467.1.size : Int)⟩ : S39), (⟨#[]⟩ : ByteArray)⟩ : S41)] : List (S41))).bind fun y477 => (edit_Then.l0 k a0 t471 ([] : List (S73)) 0 y477 (y477.length : Int) 0)) else (none)))) else (some (([] : List (S41)), bt469.2)))) else (some (([] : List (S41)), bt467.2)))) = some (r1, r2) := h
 clear h
 replace H := Option.bind_eq_some_iff.mp H
 obtain ⟨⟨t467, t468⟩, A40, H⟩ := H
 replace H : (if t468 = 0 then ((edit_Apply.f k t467 l2).bind fun bt469 => (if bt469.2 = 0 then ((edit_pieces.f k a0 l1).bind fun t471 => ((api_Edit.f l2).bind fun t474 => (if t474.length < 4398046511104 then ((some (t474 ++ [(⟨(⟨(t467.size : Int), (t467.size : Int)⟩ : S39), (⟨#[]⟩ : ByteArray)⟩ : S41)] : List (S41))).bind fun y477 => (edit_Then.l0 k a0 t471 ([] : List (S73)) 0 y477 (y477.length : Int) 0)) else (none)))) else (some (([] : List (S41)), bt469.2)))) else (some (([] : List (S41)), t468))) = some (r1, r2) := H
 have A4 := Aside0.mk A40
 clear A40
 by_cases c5 : t468 = 0
 ·rw [if_pos c5] at H
  have c5b0 : (t468 == 0) = true := beq_iff_eq.mpr c5
  have c5b1 : (t468 != 0) = false := bne_eq_false_iff_eq.mpr c5
  clear c5
  replace H := Option.bind_eq_some_iff.mp H
  obtain ⟨⟨t469, t470⟩, A60, H⟩ := H
  replace H : (if t470 = 0 then ((edit_pieces.f k a0 l1).bind fun t471 => ((api_Edit.f l2).bind fun t474 => (if t474.length < 4398046511104 then ((some (t474 ++ [(⟨(⟨(t467.size : Int), (t467.size : Int)⟩ : S39), (⟨#[]⟩ : ByteArray)⟩ : S41)] : List (S41))).bind fun y477 => (edit_Then.l0 k a0 t471 ([] : List (S73)) 0 y477 (y477.length : Int) 0)) else (none)))) else (some (([] : List (S41)), t470))) = some (r1, r2) := H
  have A6 := Aside0.mk A60
  clear A60
  by_cases c7 : t470 = 0
  ·rw [if_pos c7] at H
   have c7b0 : (t470 == 0) = true := beq_iff_eq.mpr c7
   have c7b1 : (t470 != 0) = false := bne_eq_false_iff_eq.mpr c7
   clear c7
   replace H := Option.bind_eq_some_iff.mp H
   obtain ⟨t471, A80, H⟩ := H
   replace H : ((api_Edit.f l2).bind fun t474 => (if t474.length < 4398046511104 then ((some (t474 ++ [(⟨(⟨(t467.size : Int), (t467.size : Int)⟩ : S39), (⟨#[]⟩ : ByteArray)⟩ : S41)] : List (S41))).bind fun y477 => (edit_Then.l0 k a0 t471 ([] : List (S73)) 0 y477 (y477.length : Int) 0)) else (none))) = some (r1, r2) := H
   have A8 := Aside0.mk A80
   clear A80
   replace H := Option.bind_eq_some_iff.mp H
   obtain ⟨t474, A90, H⟩ := H
   replace H : (if t474.length < 4398046511104 then ((some (t474 ++ [(⟨(⟨(t467.size : Int), (t467.size : Int)⟩ : S39), (⟨#[]⟩ : ByteArray)⟩ : S41)] : List (S41))).bind fun y477 => (edit_Then.l0 k a0 t471 ([] : List (S73)) 0 y477 (y477.length : Int) 0)) else (none)) = some (r1, r2) := H
   have A9 := Aside0.mk A90
   clear A90
   by_cases c10 : t474.length < 4398046511104
   ·rw [if_pos c10] at H
    have LMc10 := Aside0.mk c10
    clear c10
    obtain ⟨y477, hy477⟩ : ∃ y_ : List (S41), y_ = (t474 ++ [(⟨(⟨(t467.size : Int), (t467.size : Int)⟩ : S39), (⟨#[]⟩ : ByteArray)⟩ : S41)]) := ⟨_, rfl⟩
    replace H : (edit_Then.l0 k a0 t471 ([] : List (S73)) 0 y477 (y477.length : Int) 0) = some (r1, r2) := by first | (rw [hy477]; with_reducible exact H) | (have H2_ := (Option.bind_some _ _).symm.trans H; rw [hy477]; with_reducible exact H2_) | (have H2_ := (Option.bind_some _ _).symm.trans H; with_reducible exact H2_) | with_reducible exact H | (rw [hy477]; exact H) | exact H
    have Ny477 := Aside0.mk hy477
    clear hy477
    have H' := Aside0.mk H
    clear H
    go_enter Try.func21, Try.ntmps21
    go_wp2_with (first | ((with_reducible refine gate_callee (f := 22) rfl ?_); refine goesL_ (some 20) rfl rfl Try.func22 (by kernel_rfl) rfl #[.string a0, .slice A1 l1.length c1] rfl (by (try simp only [List.map_toArray, List.map_cons, List.map_nil]); first | done | rfl | (simp only [List.length_drop, List.length_take]; rfl)) ?_; (with_reducible refine (edit_Apply.calls k a0 _ _ l1 t467 t468 _ ?side1 ?side2 A4.out).mono ?_); (case side1 => repeat (first | exact HR1.out | (with_reducible refine Kd.C_alloc ?_ _) | (with_reducible refine Kd.C_drewN ?_ _) | (with_reducible refine Kd.C_drew ?_))); (case side2 => exact HC1.out); rintro e w11 ⟨rfl, hb⟩; refine ⟨_, rfl, ?_⟩; replace HB := pxs HB hb; (try clear hb); (try clear hb2); (try clear hk); (try clear hi)) | ((with_reducible refine gate_callee (f := 22) rfl ?_); refine goesL_ (some 29) rfl rfl Try.func22 (by kernel_rfl) rfl #[.string t467, .slice A2 l2.length c2] rfl (by (try simp only [List.map_toArray, List.map_cons, List.map_nil]); first | done | rfl | (simp only [List.length_drop, List.length_take]; rfl)) ?_; (with_reducible refine (edit_Apply.calls k t467 _ _ l2 t469 t470 _ ?side1 ?side2 A6.out).mono ?_); (case side1 => exact pxc HR2 HB); (case side2 => exact HC2.out); rintro e w12 ⟨rfl, hb⟩; refine ⟨_, rfl, ?_⟩; replace HB := pxs HB hb; (try clear hb); (try clear hb2); (try clear hk); (try clear hi)) | ((with_reducible refine gate_callee (f := 33) rfl ?_); refine goesL_ (some 37) rfl rfl Try.func33 (by kernel_rfl) rfl #[.string a0, .slice A1 l1.length c1] rfl (by (try simp only [List.map_toArray, List.map_cons, List.map_nil]); first | done | rfl | (simp only [List.length_drop, List.length_take]; rfl)) ?_; (with_reducible refine (edit_pieces.calls k a0 _ _ l1 t471 _ ?side1 ?side2 A8.out).mono ?_); (case side1 => exact pxc HR1 HB); (case side2 => exact HC1.out); rintro e w13 ⟨v472, rfl, ho0, hb⟩; refine ⟨_, rfl, ?_⟩; have HO473 := Aside0.mk (Kd.R_lower ho0 (below_size (pxb HB))); replace HB := pxs HB hb; (try clear hb); (try clear hb2); (try clear hk); (try clear hi); (try clear ho0)) | ((with_reducible refine gate_callee (f := 34) rfl ?_); refine goesL_ (some 39) rfl rfl Try.func34 (by kernel_rfl) rfl #[.slice A2 l2.length c2] rfl (by (try simp only [List.map_toArray, List.map_cons, List.map_nil]); first | done | rfl | (simp only [List.length_drop, List.length_take]; rfl)) ?_; (with_reducible refine (api_Edit.calls _ _ l2 t474 _ ?side1 ?side2 A9.out).mono ?_); (case side1 => exact pxc HR2 HB); (case side2 => exact HC2.out); rintro e w14 ⟨v475, rfl, ho0, hb⟩; refine ⟨_, rfl, ?_⟩; have HO476 := Aside0.mk (Kd.R_lower ho0 (below_size (pxb HB))); replace HO473 := Aside0.mk (Kd.R_below (pxr HO473) hb); replace HB := pxs HB hb; (try clear hb); (try clear hb2); (try clear hk); (try clear hi); (try clear ho0)) | ((with_reducible refine gate_builtin (b := .append) (xs := #[.tmp 39, .tmp 46]) rfl ?_); at_builtin; refine Kd.R_append k41 (w0 := w) w.heap.size rfl (.tmp 39) (.tmp 46) 23 41 (.agg #[(.int .i64 0), (.int .i64 0), (.string ⟨#[]⟩)]) 32 rfl Try.underlying23 info41 rfl (by decide) (by omega) v475 t474 (⟨(⟨(t467.size : Int), (t467.size : Int)⟩ : S39), (⟨#[]⟩ : ByteArray)⟩ : S41) [.int .i64 (t467.size : Int), .int .i64 (t467.size : Int), .string (⟨#[]⟩ : ByteArray)] (fun _ => True) (fun _ => False) rfl rfl ?aP (fun _ hk => hk.elim) ?aF ?aO ?aB ?aS ?aL ?_; (case aP => exact k41_mkM _ _ _ (⟨(⟨(t467.size : Int), (t467.size : Int)⟩ : S39), (⟨#[]⟩ : ByteArray)⟩ : S41)); (case aB => exact (pxb HB)); (case aF => exact (fun _ _ => trivial)); (case aO => exact (pxr HO476)); (case aS => exact (below_size (pxb HB))); (case aL => have := LMc10.out; omega); intro v478 w15 ho hb hg hat; rw [← Ny477.out] at ho; have n0_ := Aside0.mk (Kd.R_over' (pxr HO473) (Kd.R_typed (pxr HO476)) (by decide) hg); have n1_ := Aside0.mk (hb); have n2_ := Aside0.mk (ho); clear HO473; clear HB; clear HO476; have HO473 := n0_; have HB := n1_; have HO479 := n2_; clear n0_ n1_ n2_; clear ho hb hg hat; obtain ⟨Ao16, co16, eo16⟩ := Kd.R_slice HO479.out; subst eo16))
    go_loopg [13, 14, 49] k (fun kq v13 v14 v49 w' => ∃ (x13_1 : List (S73)) (x14_1 : Int) (x49_1 : Int), v14 = .int .i64 x14_1 ∧ v49 = .int .i64 x49_1 ∧ Aside0 (edit_Then.l0 kq a0 t471 x13_1 x14_1 y477 (y477.length : Int) x49_1 = some (r1, r2)) ∧ Aside0 (kq ≤ k) ∧ Aside0 (Kd.R k73 73 w' w.heap.size (fun k_ => some k_ ≠ (v13 : Value).ownBlock) v472 t471) ∧ Aside0 (Kd.R k73 73 w' w.heap.size (fun k_ => some k_ ≠ (v472 : Value).ownBlock) v13 x13_1) ∧ Aside0 (Kd.R k41 41 w' w.heap.size (fun _ => True) (.slice Ao16 y477.length co16) y477) ∧ Aside0 (Below w.heap.size w w'))
    case atStart => exact ⟨(([] : List (S73))), (0), (0), (by first | rfl | (simp; done) | (simp [*]; done)), (by first | rfl | (simp; done) | (simp [*]; done)), H', ⟨Nat.le_refl _⟩, ⟨by (with_reducible repeat (first | apply Kd.R_alloc | apply Kd.R_drewN | apply Kd.R_drew)); exact Kd.R_mono HO473.out (fun _ hk => (by simp [Value.ownBlock]))⟩, ⟨by first | exact Kd.R_nil _ _ _ _ _ | exact Kd.N_nil _ _ _ _ _ | exact Kd.V_nil _ _ _ _ _ | exact Kd.Q_nil _ _ _ _ _ | exact Kd.S_nil _ _ _ _ _⟩, ⟨pxr HO479⟩, ⟨pxb HB⟩⟩
    case round =>
     clear H'
     (try clear c1); (try clear c2); (try clear p2); (try clear c3); (try clear c5); (try clear c5b0); (try clear c5b1); (try clear c7); (try clear c7b0); (try clear c7b1); (try clear c10)
     obtain ⟨x13_1, x14_1, x49_1, rfl, rfl, HA, HK1, HO_12, HO_13, HO_47, HB⟩ := hrel
     cases gk with
     | zero => exact absurd HA.out (by simp [edit_Then.l0])
     | succ k1 =>
      have H := HA.out
      clear HA
      simp only [edit_Then.l0] at H
      by_cases c17 : x49_1 < (y477.length : Int)
      ·rw [if_pos c17] at H
       have c17b0 : decide (x49_1 < (y477.length : Int)) = true := decide_eq_true c17
       clear c17
       by_cases c18 : 0 ≤ x49_1
       ·rw [if_pos c18] at H
        have c18b0 : decide (0 ≤ x49_1) = true := decide_eq_true c18
        clear c18
        by_cases c19 : x49_1 < (y477.length : Int)
        ·rw [if_pos c19] at H
         have c19b0 : decide (x49_1 < (y477.length : Int)) = true := decide_eq_true c19
         clear c19
         replace H := Option.bind_eq_some_iff.mp H
         obtain ⟨t482, A200, H⟩ := H
         replace H : (if x13_1.length + t482.length < 5864062014805 then ((some (x13_1 ++ t482 : List (S73))).bind fun y485 => (if ((rd_T41 y477 x49_1).f1).toList = ([] : List UInt8) then (edit_Then.l0 k1 a0 t471 y485 ((rd_T41 y477 x49_1).f0.f1) y477 (y477.length : Int) (wrap64 (x49_1 + 1))) else (if y485.length < 5864062014805 then (edit_Then.l0 k1 a0 t471 (y485 ++ [(⟨(rd_T41 y477 x49_1).f1, (-1)⟩ : S73)]) ((rd_T41 y477 x49_1).f0.f1) y477 (y477.length : Int) (wrap64 (x49_1 + 1))) else (none)))) else (none)) = some (r1, r2) := H
         have A20 := Aside0.mk A200
         clear A200
         by_cases c21 : x13_1.length + t482.length < 5864062014805
         ·rw [if_pos c21] at H
          have LMc21 := Aside0.mk c21
          clear c21
          obtain ⟨y485, hy485⟩ : ∃ y_ : List (S73), y_ = (x13_1 ++ t482) := ⟨_, rfl⟩
          replace H : (if ((rd_T41 y477 x49_1).f1).toList = ([] : List UInt8) then (edit_Then.l0 k1 a0 t471 y485 ((rd_T41 y477 x49_1).f0.f1) y477 (y477.length : Int) (wrap64 (x49_1 + 1))) else (if y485.length < 5864062014805 then (edit_Then.l0 k1 a0 t471 (y485 ++ [(⟨(rd_T41 y477 x49_1).f1, (-1)⟩ : S73)]) ((rd_T41 y477 x49_1).f0.f1) y477 (y477.length : Int) (wrap64 (x49_1 + 1))) else (none))) = some (r1, r2) := by first | (rw [hy485]; with_reducible exact H) | (have H2_ := (Option.bind_some _ _).symm.trans H; rw [hy485]; with_reducible exact H2_) | (have H2_ := (Option.bind_some _ _).symm.trans H; with_reducible exact H2_) | with_reducible exact H | (rw [hy485]; exact H) | exact H
          have Ny485 := Aside0.mk hy485
          clear hy485
          by_cases c22 : ((rd_T41 y477 x49_1).f1).toList = ([] : List UInt8)
          ·rw [if_pos c22] at H
           have c22b0 : (((rd_T41 y477 x49_1).f1).toList == ([] : List UInt8)) = true := beq_iff_eq.mpr c22
           (try (have c22b0e : (((rd_T41 y477 x49_1).f1).toList.isEmpty) = true := by simpa only [pxbeq, pxbne] using c22b0))
           have c22b1 : (((rd_T41 y477 x49_1).f1).toList != ([] : List UInt8)) = false := bne_eq_false_iff_eq.mpr c22
           (try (have c22b1e : ((!((rd_T41 y477 x49_1).f1).toList.isEmpty)) = false := by simpa only [pxbeq, pxbne] using c22b1))
           clear c22
           have H' := Aside0.mk H
           clear H
           have p480 : 0 ≤ (x49_1 : Int) := pxd
           have q480 : x49_1 < (y477.length : Int) := pxd
           obtain ⟨ad480, e480, hx480_0, hx480_1, hx480_2⟩ := at_T41 (Kd.R_reads' HO_47.out).2.2 x49_1 p480 q480
           cases e480
           replace p480 := eq_true p480
           replace q480 := eq_true q480
           go_wp2_with (first | ((with_reducible refine gate_dst (N := 16) rfl ?_); refine box_event ?hg (N := 16) ?hd (cs := #[.int .i64 0, .int .i64 0, .string (⟨#[]⟩ : ByteArray)]) (t := 41) ?hr ?_; (case hd => rfl); (case hg => rfl); (case hr => first | (go_simp; done) | (go_simp; rfl)); intro gb481 hg w23 hbox hb; have BK481 := Aside0.mk (hbox); have GW481 := pxw HB hg; have GE481 := pxw HB hg; replace HO_12 := Aside0.mk (Kd.R_below (pxr HO_12) hb); replace HO_13 := Aside0.mk (Kd.R_below (pxr HO_13) hb); replace HO_47 := Aside0.mk (Kd.R_below (Kd.R_elderB (pxr HO_47) gb481 (Nat.le_of_eq hg.symm)) hb); replace HB := pxs HB hb; clear hb hbox hg; obtain ⟨hcz24_0, hcz24_1, hcz24_2, hfz24_0, hfz24_1, hfz24_2⟩ := pxf3 BK481; obtain ⟨Ao25, co25, eo25⟩ := Kd.R_slice HO_12.out; subst eo25) | ((with_reducible refine gate_callee (f := 35) rfl ?_); refine goesL_ (some 60) rfl rfl Try.func35 (by kernel_rfl) rfl #[.slice Ao25 t471.length co25, .agg #[.int .i64 x14_1, .int .i64 ((rd_T41 y477 x49_1).f0.f0)]] rfl (by (try simp only [List.map_toArray, List.map_cons, List.map_nil]); first | done | rfl | (simp only [List.length_drop, List.length_take]; rfl)) ?_; (with_reducible refine (edit_cut.calls k1 _ _ t471 x14_1 ((rd_T41 y477 x49_1).f0.f0) t482 _ ?side1 ?side2 A20.out).mono ?_); (case side1 => refine (Kd.R_reads' (e := 73) (base := w.heap.size) (ok := fun k_ => some k_ ≠ (u13 : Value).ownBlock) (n := t471.length) (c := co25) ?_).2.2; exact (by (with_reducible repeat (first | apply Kd.R_alloc | apply Kd.R_drewN | apply Kd.R_drew)); exact (Kd.R_mono (Kd.R_far (p := ⟨gb481, 2, none⟩) (Kd.R_far (p := ⟨gb481, 1, none⟩) (Kd.R_far (p := ⟨gb481, 0, none⟩) (Kd.R_types HO_12.out BK481.out (by decide)) (fun _ hk => hk.2) (.int .i64 ((rd_T41 y477 x49_1).f0.f0))) (fun _ hk => hk.2) (.int .i64 ((rd_T41 y477 x49_1).f0.f1))) (fun _ hk => hk.2) (.string ((rd_T41 y477 x49_1).f1))) (fun _ h_ => h_.1)))); (case side2 => exact (Kd.R_reads' HO_12.out).2.1); rintro e w26 ⟨v483, rfl, ho0, hb⟩; refine ⟨_, rfl, ?_⟩; have HO484 := Aside0.mk (Kd.R_lower (Kd.R_new' (Kd.R_new' ho0 (Kd.R_lt (by (with_reducible repeat (first | apply Kd.R_alloc | apply Kd.R_drewN | apply Kd.R_drew)); exact (Kd.R_mono (Kd.R_far (p := ⟨gb481, 2, none⟩) (Kd.R_far (p := ⟨gb481, 1, none⟩) (Kd.R_far (p := ⟨gb481, 0, none⟩) (Kd.R_types HO_12.out BK481.out (by decide)) (fun _ hk => hk.2) (.int .i64 ((rd_T41 y477 x49_1).f0.f0))) (fun _ hk => hk.2) (.int .i64 ((rd_T41 y477 x49_1).f0.f1))) (fun _ hk => hk.2) (.string ((rd_T41 y477 x49_1).f1))) (fun _ h_ => h_.1))))) (Kd.R_lt (by (with_reducible repeat (first | apply Kd.R_alloc | apply Kd.R_drewN | apply Kd.R_drew)); exact (Kd.R_mono (Kd.R_far (p := ⟨gb481, 2, none⟩) (Kd.R_far (p := ⟨gb481, 1, none⟩) (Kd.R_far (p := ⟨gb481, 0, none⟩) (Kd.R_types HO_13.out BK481.out (by decide)) (fun _ hk => hk.2) (.int .i64 ((rd_T41 y477 x49_1).f0.f0))) (fun _ hk => hk.2) (.int .i64 ((rd_T41 y477 x49_1).f0.f1))) (fun _ hk => hk.2) (.string ((rd_T41 y477 x49_1).f1))) (fun _ h_ => h_.1))))) (below_size (pxb HB))); replace HO_12 := Aside0.mk (Kd.R_elder' (by (with_reducible repeat (first | apply Kd.R_alloc | apply Kd.R_drewN | apply Kd.R_drew)); exact (Kd.R_mono (Kd.R_far (p := ⟨gb481, 2, none⟩) (Kd.R_far (p := ⟨gb481, 1, none⟩) (Kd.R_far (p := ⟨gb481, 0, none⟩) (Kd.R_types HO_12.out BK481.out (by decide)) (fun _ hk => hk.2) (.int .i64 ((rd_T41 y477 x49_1).f0.f0))) (fun _ hk => hk.2) (.int .i64 ((rd_T41 y477 x49_1).f0.f1))) (fun _ hk => hk.2) (.string ((rd_T41 y477 x49_1).f1))) (fun _ h_ => h_.1))) (Kd.R_base ho0) hb); replace HO_13 := Aside0.mk (Kd.R_elder' (by (with_reducible repeat (first | apply Kd.R_alloc | apply Kd.R_drewN | apply Kd.R_drew)); exact (Kd.R_mono (Kd.R_far (p := ⟨gb481, 2, none⟩) (Kd.R_far (p := ⟨gb481, 1, none⟩) (Kd.R_far (p := ⟨gb481, 0, none⟩) (Kd.R_types HO_13.out BK481.out (by decide)) (fun _ hk => hk.2) (.int .i64 ((rd_T41 y477 x49_1).f0.f0))) (fun _ hk => hk.2) (.int .i64 ((rd_T41 y477 x49_1).f0.f1))) (fun _ hk => hk.2) (.string ((rd_T41 y477 x49_1).f1))) (fun _ h_ => h_.1))) (Kd.R_base ho0) hb); replace HO_47 := Aside0.mk (Kd.R_below (by (with_reducible repeat (first | apply Kd.R_alloc | apply Kd.R_drewN | apply Kd.R_drew)); exact (Kd.R_mono (Kd.R_far (p := ⟨gb481, 2, none⟩) (Kd.R_far (p := ⟨gb481, 1, none⟩) (Kd.R_far (p := ⟨gb481, 0, none⟩) (Kd.R_mono HO_47.out (fun k_ hk => (⟨hk, hk.2⟩ : _ ∧ k_ ≠ gb481))) (fun _ hk => hk.2) (.int .i64 ((rd_T41 y477 x49_1).f0.f0))) (fun _ hk => hk.2) (.int .i64 ((rd_T41 y477 x49_1).f0.f1))) (fun _ hk => hk.2) (.string ((rd_T41 y477 x49_1).f1))) (fun _ h_ => h_.1))) hb); replace BK481 := Aside0.mk (blk_below (g := gb481) (o := .cells #[.int .i64 ((rd_T41 y477 x49_1).f0.f0), .int .i64 ((rd_T41 y477 x49_1).f0.f1), .string ((rd_T41 y477 x49_1).f1)] 41 (0, 0)) (pxp BK481) hb); replace HB := pxs HB hb; (try clear hb); (try clear hb2); (try clear hk); (try clear hi); (try clear ho0); obtain ⟨Ao28, co28, eo28⟩ := Kd.R_slice HO484.out; subst eo28) | ((with_reducible refine gate_builtin (b := .append) (xs := #[.tmp 53, .tmp 60]) rfl ?_); at_builtin; refine Kd.R_append_rows k73 (w0 := w) w.heap.size rfl (.tmp 53) (.tmp 60) 68 73 (.agg #[(.string ⟨#[]⟩), (.int .i64 0)]) 24 rfl Try.underlying68 info73 rfl (by decide) (by omega) u13 x13_1 t482 _ _ _ (fun k_ => some k_ ≠ (.slice Ao25 t471.length co25 : Value).ownBlock ∧ some k_ ≠ (.slice Ao28 t482.length co28 : Value).ownBlock) (fun _ => False) rfl rfl ?aO ?aR (fun _ _ h => h) (fun _ h => h.elim) ?aF ?aB ?aS ?aL ?_; (case aR => repeat (first | exact (Kd.R_reads' HO484.out).2.2 | (with_reducible refine Kd.C_alloc ?_ _) | (with_reducible refine Kd.C_drewN ?_ _) | (with_reducible refine Kd.C_drew ?_))); (case aB => exact (pxb HB)); (case aF => exact (fun k_ hk => ⟨Kd.fresh' (Kd.R_lt (pxr HO_12)) k_ hk, Kd.fresh' (Kd.R_lt (pxr HO484)) k_ hk⟩)); (case aO => exact (pxr HO_13)); (case aS => exact (below_size (pxb HB))); (case aL => have := LMc21.out; omega); intro v486 w27 ho hb hg hat; rw [← Ny485.out] at ho; have n0_ := Aside0.mk (Kd.R_after (ok := (fun k_ => some k_ ≠ (.slice Ao28 t482.length co28 : Value).ownBlock)) (by (with_reducible repeat (first | apply Kd.R_alloc | apply Kd.R_drewN | apply Kd.R_drew)); exact Kd.R_mono HO_12.out (fun _ hk => ⟨hk.2, hk.1⟩)) hg hat); have n1_ := Aside0.mk (Kd.R_over' (pxr HO_47) (Kd.R_typed (pxr HO_13)) (by decide) hg); have n2_ := Aside0.mk (blk_grown (g := gb481) (o := .cells #[.int .i64 ((rd_T41 y477 x49_1).f0.f0), .int .i64 ((rd_T41 y477 x49_1).f0.f1), .string ((rd_T41 y477 x49_1).f1)] 41 (0, 0)) (pxq BK481) hg (Kd.R_ne HO_13.out BK481.out (by decide))); have n3_ := Aside0.mk (Kd.R_after (ok := (fun k_ => some k_ ≠ (.slice Ao25 t471.length co25 : Value).ownBlock)) (by (with_reducible repeat (first | apply Kd.R_alloc | apply Kd.R_drewN | apply Kd.R_drew)); exact Kd.R_mono HO484.out (fun _ hk => ⟨hk.1.2, hk.2⟩)) hg hat); have n4_ := Aside0.mk (hb); have n5_ := Aside0.mk (ho); clear HO_12; clear HO_47; clear BK481; clear HO484; clear HB; clear HO_13; have HO_12 := n0_; have HO_47 := n1_; have BK481 := n2_; have HO484 := n3_; have HB := n4_; have HO487 := n5_; clear n0_ n1_ n2_ n3_ n4_ n5_; clear ho hb hg hat; obtain ⟨hcz29_0, hcz29_1, hcz29_2, hfz29_0, hfz29_1, hfz29_2⟩ := pxf3 BK481))
           go_roundg k1
           case measure => have := HK1.out; omega
           case rel => exact ⟨(y485), ((rd_T41 y477 x49_1).f0.f1), (wrap64 (x49_1 + 1)), (by first | rfl | (simp; done) | (simp [*]; done)), (by first | rfl | (simp; done) | (simp [*]; done)), H', ⟨by have := HK1.out; omega⟩, ⟨by (with_reducible repeat (first | apply Kd.R_alloc | apply Kd.R_drewN | apply Kd.R_drew)); exact Kd.R_mono HO_12.out (fun _ hk => hk.2)⟩, ⟨by (with_reducible repeat (first | apply Kd.R_alloc | apply Kd.R_drewN | apply Kd.R_drew)); exact Kd.R_mono HO487.out (fun _ hk => hk.1)⟩, ⟨by (with_reducible repeat (first | apply Kd.R_alloc | apply Kd.R_drewN | apply Kd.R_drew)); exact Kd.R_mono HO_47.out (fun _ hk => trivial)⟩, ⟨pxb HB⟩⟩
          ·rw [if_neg c22] at H
           have c22b0 : (((rd_T41 y477 x49_1).f1).toList == ([] : List UInt8)) = false := beq_eq_false_iff_ne.mpr c22
           (try (have c22b0e : (((rd_T41 y477 x49_1).f1).toList.isEmpty) = false := by simpa only [pxbeq, pxbne] using c22b0))
           have c22b1 : (((rd_T41 y477 x49_1).f1).toList != ([] : List UInt8)) = true := bne_iff_ne.mpr c22
           (try (have c22b1e : ((!((rd_T41 y477 x49_1).f1).toList.isEmpty)) = true := by simpa only [pxbeq, pxbne] using c22b1))
           by_cases c30 : y485.length < 5864062014805
           ·rw [if_pos c30] at H
            have LMc30 := Aside0.mk c30
            clear c30
            obtain ⟨y488, hy488⟩ : ∃ y_ : List (S73), y_ = (y485 ++ [(⟨(rd_T41 y477 x49_1).f1, (-1)⟩ : S73)]) := ⟨_, rfl⟩
            replace H : (edit_Then.l0 k1 a0 t471 y488 ((rd_T41 y477 x49_1).f0.f1) y477 (y477.length : Int) (wrap64 (x49_1 + 1))) = some (r1, r2) := by first | (rw [hy488]; with_reducible exact H) | (have H2_ := (Option.bind_some _ _).symm.trans H; rw [hy488]; with_reducible exact H2_) | (have H2_ := (Option.bind_some _ _).symm.trans H; with_reducible exact H2_) | with_reducible exact H | (rw [hy488]; exact H) | exact H
            have Ny488 := Aside0.mk hy488
            clear hy488
            have H' := Aside0.mk H
            clear H
            have p480 : 0 ≤ (x49_1 : Int) := pxd
            have q480 : x49_1 < (y477.length : Int) := pxd
            obtain ⟨ad480, e480, hx480_0, hx480_1, hx480_2⟩ := at_T41 (Kd.R_reads' HO_47.out).2.2 x49_1 p480 q480
            cases e480
            replace p480 := eq_true p480
            replace q480 := eq_true q480
            go_wp2_with (first | ((with_reducible refine gate_dst (N := 16) rfl ?_); refine box_event ?hg (N := 16) ?hd (cs := #[.int .i64 0, .int .i64 0, .string (⟨#[]⟩ : ByteArray)]) (t := 41) ?hr ?_; (case hd => rfl); (case hg => rfl); (case hr => first | (go_simp; done) | (go_simp; rfl)); intro gb481 hg w31 hbox hb; have BK481 := Aside0.mk (hbox); have GW481 := pxw HB hg; have GE481 := pxw HB hg; replace HO_12 := Aside0.mk (Kd.R_below (pxr HO_12) hb); replace HO_13 := Aside0.mk (Kd.R_below (pxr HO_13) hb); replace HO_47 := Aside0.mk (Kd.R_below (Kd.R_elderB (pxr HO_47) gb481 (Nat.le_of_eq hg.symm)) hb); replace HB := pxs HB hb; clear hb hbox hg; obtain ⟨hcz32_0, hcz32_1, hcz32_2, hfz32_0, hfz32_1, hfz32_2⟩ := pxf3 BK481; obtain ⟨Ao33, co33, eo33⟩ := Kd.R_slice HO_12.out; subst eo33) | ((with_reducible refine gate_callee (f := 35) rfl ?_); refine goesL_ (some 60) rfl rfl Try.func35 (by kernel_rfl) rfl #[.slice Ao33 t471.length co33, .agg #[.int .i64 x14_1, .int .i64 ((rd_T41 y477 x49_1).f0.f0)]] rfl (by (try simp only [List.map_toArray, List.map_cons, List.map_nil]); first | done | rfl | (simp only [List.length_drop, List.length_take]; rfl)) ?_; (with_reducible refine (edit_cut.calls k1 _ _ t471 x14_1 ((rd_T41 y477 x49_1).f0.f0) t482 _ ?side1 ?side2 A20.out).mono ?_); (case side1 => refine (Kd.R_reads' (e := 73) (base := w.heap.size) (ok := fun k_ => some k_ ≠ (u13 : Value).ownBlock) (n := t471.length) (c := co33) ?_).2.2; exact (by (with_reducible repeat (first | apply Kd.R_alloc | apply Kd.R_drewN | apply Kd.R_drew)); exact (Kd.R_mono (Kd.R_far (p := ⟨gb481, 2, none⟩) (Kd.R_far (p := ⟨gb481, 1, none⟩) (Kd.R_far (p := ⟨gb481, 0, none⟩) (Kd.R_types HO_12.out BK481.out (by decide)) (fun _ hk => hk.2) (.int .i64 ((rd_T41 y477 x49_1).f0.f0))) (fun _ hk => hk.2) (.int .i64 ((rd_T41 y477 x49_1).f0.f1))) (fun _ hk => hk.2) (.string ((rd_T41 y477 x49_1).f1))) (fun _ h_ => h_.1)))); (case side2 => exact (Kd.R_reads' HO_12.out).2.1); rintro e w34 ⟨v483, rfl, ho0, hb⟩; refine ⟨_, rfl, ?_⟩; have HO484 := Aside0.mk (Kd.R_lower (Kd.R_new' (Kd.R_new' ho0 (Kd.R_lt (by (with_reducible repeat (first | apply Kd.R_alloc | apply Kd.R_drewN | apply Kd.R_drew)); exact (Kd.R_mono (Kd.R_far (p := ⟨gb481, 2, none⟩) (Kd.R_far (p := ⟨gb481, 1, none⟩) (Kd.R_far (p := ⟨gb481, 0, none⟩) (Kd.R_types HO_12.out BK481.out (by decide)) (fun _ hk => hk.2) (.int .i64 ((rd_T41 y477 x49_1).f0.f0))) (fun _ hk => hk.2) (.int .i64 ((rd_T41 y477 x49_1).f0.f1))) (fun _ hk => hk.2) (.string ((rd_T41 y477 x49_1).f1))) (fun _ h_ => h_.1))))) (Kd.R_lt (by (with_reducible repeat (first | apply Kd.R_alloc | apply Kd.R_drewN | apply Kd.R_drew)); exact (Kd.R_mono (Kd.R_far (p := ⟨gb481, 2, none⟩) (Kd.R_far (p := ⟨gb481, 1, none⟩) (Kd.R_far (p := ⟨gb481, 0, none⟩) (Kd.R_types HO_13.out BK481.out (by decide)) (fun _ hk => hk.2) (.int .i64 ((rd_T41 y477 x49_1).f0.f0))) (fun _ hk => hk.2) (.int .i64 ((rd_T41 y477 x49_1).f0.f1))) (fun _ hk => hk.2) (.string ((rd_T41 y477 x49_1).f1))) (fun _ h_ => h_.1))))) (below_size (pxb HB))); replace HO_12 := Aside0.mk (Kd.R_elder' (by (with_reducible repeat (first | apply Kd.R_alloc | apply Kd.R_drewN | apply Kd.R_drew)); exact (Kd.R_mono (Kd.R_far (p := ⟨gb481, 2, none⟩) (Kd.R_far (p := ⟨gb481, 1, none⟩) (Kd.R_far (p := ⟨gb481, 0, none⟩) (Kd.R_types HO_12.out BK481.out (by decide)) (fun _ hk => hk.2) (.int .i64 ((rd_T41 y477 x49_1).f0.f0))) (fun _ hk => hk.2) (.int .i64 ((rd_T41 y477 x49_1).f0.f1))) (fun _ hk => hk.2) (.string ((rd_T41 y477 x49_1).f1))) (fun _ h_ => h_.1))) (Kd.R_base ho0) hb); replace HO_13 := Aside0.mk (Kd.R_elder' (by (with_reducible repeat (first | apply Kd.R_alloc | apply Kd.R_drewN | apply Kd.R_drew)); exact (Kd.R_mono (Kd.R_far (p := ⟨gb481, 2, none⟩) (Kd.R_far (p := ⟨gb481, 1, none⟩) (Kd.R_far (p := ⟨gb481, 0, none⟩) (Kd.R_types HO_13.out BK481.out (by decide)) (fun _ hk => hk.2) (.int .i64 ((rd_T41 y477 x49_1).f0.f0))) (fun _ hk => hk.2) (.int .i64 ((rd_T41 y477 x49_1).f0.f1))) (fun _ hk => hk.2) (.string ((rd_T41 y477 x49_1).f1))) (fun _ h_ => h_.1))) (Kd.R_base ho0) hb); replace HO_47 := Aside0.mk (Kd.R_below (by (with_reducible repeat (first | apply Kd.R_alloc | apply Kd.R_drewN | apply Kd.R_drew)); exact (Kd.R_mono (Kd.R_far (p := ⟨gb481, 2, none⟩) (Kd.R_far (p := ⟨gb481, 1, none⟩) (Kd.R_far (p := ⟨gb481, 0, none⟩) (Kd.R_mono HO_47.out (fun k_ hk => (⟨hk, hk.2⟩ : _ ∧ k_ ≠ gb481))) (fun _ hk => hk.2) (.int .i64 ((rd_T41 y477 x49_1).f0.f0))) (fun _ hk => hk.2) (.int .i64 ((rd_T41 y477 x49_1).f0.f1))) (fun _ hk => hk.2) (.string ((rd_T41 y477 x49_1).f1))) (fun _ h_ => h_.1))) hb); replace BK481 := Aside0.mk (blk_below (g := gb481) (o := .cells #[.int .i64 ((rd_T41 y477 x49_1).f0.f0), .int .i64 ((rd_T41 y477 x49_1).f0.f1), .string ((rd_T41 y477 x49_1).f1)] 41 (0, 0)) (pxp BK481) hb); replace HB := pxs HB hb; (try clear hb); (try clear hb2); (try clear hk); (try clear hi); (try clear ho0); obtain ⟨Ao36, co36, eo36⟩ := Kd.R_slice HO484.out; subst eo36) | ((with_reducible refine gate_builtin (b := .append) (xs := #[.tmp 53, .tmp 60]) rfl ?_); at_builtin; refine Kd.R_append_rows k73 (w0 := w) w.heap.size rfl (.tmp 53) (.tmp 60) 68 73 (.agg #[(.string ⟨#[]⟩), (.int .i64 0)]) 24 rfl Try.underlying68 info73 rfl (by decide) (by omega) u13 x13_1 t482 _ _ _ (fun k_ => some k_ ≠ (.slice Ao33 t471.length co33 : Value).ownBlock ∧ some k_ ≠ (.slice Ao36 t482.length co36 : Value).ownBlock) (fun _ => False) rfl rfl ?aO ?aR (fun _ _ h => h) (fun _ h => h.elim) ?aF ?aB ?aS ?aL ?_; (case aR => repeat (first | exact (Kd.R_reads' HO484.out).2.2 | (with_reducible refine Kd.C_alloc ?_ _) | (with_reducible refine Kd.C_drewN ?_ _) | (with_reducible refine Kd.C_drew ?_))); (case aB => exact (pxb HB)); (case aF => exact (fun k_ hk => ⟨Kd.fresh' (Kd.R_lt (pxr HO_12)) k_ hk, Kd.fresh' (Kd.R_lt (pxr HO484)) k_ hk⟩)); (case aO => exact (pxr HO_13)); (case aS => exact (below_size (pxb HB))); (case aL => have := LMc21.out; omega); intro v486 w35 ho hb hg hat; rw [← Ny485.out] at ho; have n0_ := Aside0.mk (Kd.R_after (ok := (fun k_ => some k_ ≠ (.slice Ao36 t482.length co36 : Value).ownBlock)) (by (with_reducible repeat (first | apply Kd.R_alloc | apply Kd.R_drewN | apply Kd.R_drew)); exact Kd.R_mono HO_12.out (fun _ hk => ⟨hk.2, hk.1⟩)) hg hat); have n1_ := Aside0.mk (Kd.R_over' (pxr HO_47) (Kd.R_typed (pxr HO_13)) (by decide) hg); have n2_ := Aside0.mk (blk_grown (g := gb481) (o := .cells #[.int .i64 ((rd_T41 y477 x49_1).f0.f0), .int .i64 ((rd_T41 y477 x49_1).f0.f1), .string ((rd_T41 y477 x49_1).f1)] 41 (0, 0)) (pxq BK481) hg (Kd.R_ne HO_13.out BK481.out (by decide))); have n3_ := Aside0.mk (Kd.R_after (ok := (fun k_ => some k_ ≠ (.slice Ao33 t471.length co33 : Value).ownBlock)) (by (with_reducible repeat (first | apply Kd.R_alloc | apply Kd.R_drewN | apply Kd.R_drew)); exact Kd.R_mono HO484.out (fun _ hk => ⟨hk.1.2, hk.2⟩)) hg hat); have n4_ := Aside0.mk (hb); have n5_ := Aside0.mk (ho); clear HO_12; clear HO_47; clear BK481; clear HO484; clear HB; clear HO_13; have HO_12 := n0_; have HO_47 := n1_; have BK481 := n2_; have HO484 := n3_; have HB := n4_; have HO487 := n5_; clear n0_ n1_ n2_ n3_ n4_ n5_; clear ho hb hg hat; obtain ⟨hcz37_0, hcz37_1, hcz37_2, hfz37_0, hfz37_1, hfz37_2⟩ := pxf3 BK481) | ((with_reducible refine gate_builtin (b := .append) (xs := #[.tmp 65, .tmp 69]) rfl ?_); at_builtin; refine Kd.R_append k73 (w0 := w) w.heap.size rfl (.tmp 65) (.tmp 69) 68 73 (.agg #[(.string ⟨#[]⟩), (.int .i64 0)]) 24 rfl Try.underlying68 info73 rfl (by decide) (by omega) v486 y485 (⟨(rd_T41 y477 x49_1).f1, (-1)⟩ : S73) [.string ((rd_T41 y477 x49_1).f1), .int .i64 (-1)] (fun k_ => some k_ ≠ (.slice Ao33 t471.length co33 : Value).ownBlock ∧ some k_ ≠ (.slice Ao36 t482.length co36 : Value).ownBlock) (fun _ => False) rfl rfl ?aP (fun _ hk => hk.elim) ?aF ?aO ?aB ?aS ?aL ?_; (case aP => exact k73_mkM _ _ _ (⟨(rd_T41 y477 x49_1).f1, (-1)⟩ : S73)); (case aB => exact (pxb HB)); (case aF => exact (fun k_ hk => ⟨Kd.fresh' (Kd.R_lt (pxr HO_12)) k_ hk, Kd.fresh' (Kd.R_lt (pxr HO484)) k_ hk⟩)); (case aO => exact (pxr HO487)); (case aS => exact (below_size (pxb HB))); (case aL => have := LMc30.out; omega); intro v489 w38 ho hb hg hat; rw [← Ny488.out] at ho; have n0_ := Aside0.mk (Kd.R_after (ok := (fun k_ => some k_ ≠ (.slice Ao36 t482.length co36 : Value).ownBlock)) (pxr HO_12) hg hat); have n1_ := Aside0.mk (Kd.R_over' (pxr HO_47) (Kd.R_typed (pxr HO487)) (by decide) hg); have n2_ := Aside0.mk (blk_grown (g := gb481) (o := .cells #[.int .i64 ((rd_T41 y477 x49_1).f0.f0), .int .i64 ((rd_T41 y477 x49_1).f0.f1), .string ((rd_T41 y477 x49_1).f1)] 41 (0, 0)) (pxq BK481) hg (Kd.R_ne HO487.out BK481.out (by decide))); have n3_ := Aside0.mk (Kd.R_after (ok := (fun k_ => some k_ ≠ (.slice Ao33 t471.length co33 : Value).ownBlock)) (pxr HO484) hg hat); have n4_ := Aside0.mk (hb); have n5_ := Aside0.mk (ho); clear HO_12; clear HO_47; clear BK481; clear HO484; clear HB; clear HO487; have HO_12 := n0_; have HO_47 := n1_; have BK481 := n2_; have HO484 := n3_; have HB := n4_; have HO490 := n5_; clear n0_ n1_ n2_ n3_ n4_ n5_; clear ho hb hg hat; obtain ⟨hcz39_0, hcz39_1, hcz39_2, hfz39_0, hfz39_1, hfz39_2⟩ := pxf3 BK481))
            go_roundg k1
            case measure => have := HK1.out; omega
            case rel => exact ⟨(y488), ((rd_T41 y477 x49_1).f0.f1), (wrap64 (x49_1 + 1)), (by first | rfl | (simp; done) | (simp [*]; done)), (by first | rfl | (simp; done) | (simp [*]; done)), H', ⟨by have := HK1.out; omega⟩, ⟨by (with_reducible repeat (first | apply Kd.R_alloc | apply Kd.R_drewN | apply Kd.R_drew)); exact Kd.R_mono HO_12.out (fun _ hk => hk.2)⟩, ⟨by (with_reducible repeat (first | apply Kd.R_alloc | apply Kd.R_drewN | apply Kd.R_drew)); exact Kd.R_mono HO490.out (fun _ hk => hk.1)⟩, ⟨by (with_reducible repeat (first | apply Kd.R_alloc | apply Kd.R_drewN | apply Kd.R_drew)); exact Kd.R_mono HO_47.out (fun _ hk => trivial)⟩, ⟨pxb HB⟩⟩
           ·rw [if_neg c30] at H
            exact absurd H (by simp)
         ·rw [if_neg c21] at H
          exact absurd H (by simp)
        ·rw [if_neg c19] at H
         exact absurd H (by simp)
       ·rw [if_neg c18] at H
        exact absurd H (by simp)
      ·rw [if_neg c17] at H
       have c17b0 : decide (x49_1 < (y477.length : Int)) = false := decide_eq_false c17
       clear c17
       replace H := Option.bind_eq_some_iff.mp H
       obtain ⟨t491, A400, H⟩ := H
       replace H : ((edit_Tidy.f k1 a0 t491).bind fun bt494 => (some (bt494.1, bt494.2))) = some (r1, r2) := H
       have A40 := Aside0.mk A400
       clear A400
       replace H := Option.bind_eq_some_iff.mp H
       obtain ⟨⟨t494, t495⟩, A410, H⟩ := H
       replace H : (some (t494, t495)) = some (r1, r2) := H
       have A41 := Aside0.mk A410
       clear A410
       simp only [Option.some.injEq, Prod.mk.injEq] at H
       obtain ⟨rfl, rfl⟩ := H
       obtain ⟨Ao42, co42, eo42⟩ := Kd.R_slice HO_13.out
       subst eo42
       go_wp2_with (first | ((with_reducible refine gate_callee (f := 36) rfl ?_); refine goesL_ (some 79) rfl rfl Try.func36 (by kernel_rfl) rfl #[.int .i64 (a0.size : Int), .slice Ao42 x13_1.length co42] rfl (by (try simp only [List.map_toArray, List.map_cons, List.map_nil]); first | done | rfl | (simp only [List.length_drop, List.length_take]; rfl)) ?_; (with_reducible refine (edit_between.calls k1 (a0.size : Int) _ _ x13_1 t491 _ ?side1 ?side2 A40.out).mono ?_); (case side1 => repeat (first | exact (Kd.R_reads' HO_13.out).2.2 | (with_reducible refine Kd.C_alloc ?_ _) | (with_reducible refine Kd.C_drewN ?_ _) | (with_reducible refine Kd.C_drew ?_))); (case side2 => exact (Kd.R_reads' HO_13.out).2.1); rintro e w43 ⟨v492, rfl, ho0, hb⟩; refine ⟨_, rfl, ?_⟩; have HO493 := Aside0.mk (Kd.R_lower (Kd.R_new' ho0 (Kd.R_lt (pxr HO_47))) (below_size (pxb HB))); replace HO_12 := Aside0.mk (Kd.R_below (pxr HO_12) hb); replace HO_13 := Aside0.mk (Kd.R_below (pxr HO_13) hb); replace HO_47 := Aside0.mk (Kd.R_elder' (pxr HO_47) (Kd.R_base ho0) hb); replace HB := pxs HB hb; (try clear hb); (try clear hb2); (try clear hk); (try clear hi); (try clear ho0); obtain ⟨Ao44, co44, eo44⟩ := Kd.R_slice HO493.out; subst eo44) | ((with_reducible refine gate_callee (f := 20) rfl ?_); refine goesL_ (some 80) rfl rfl Try.func20 (by kernel_rfl) rfl #[.string a0, .slice Ao44 t491.length co44] rfl (by (try simp only [List.map_toArray, List.map_cons, List.map_nil]); first | done | rfl | (simp only [List.length_drop, List.length_take]; rfl)) ?_; (with_reducible refine (edit_Tidy.calls k1 a0 _ _ t491 t494 t495 _ ?side1 ?side2 A41.out).mono ?_); (case side1 => repeat (first | exact (Kd.R_reads' HO493.out).2.2 | (with_reducible refine Kd.C_alloc ?_ _) | (with_reducible refine Kd.C_drewN ?_ _) | (with_reducible refine Kd.C_drew ?_))); (case side2 => exact (Kd.R_reads' HO493.out).2.1); rintro e w45 ⟨v496, rfl, ho0, hb⟩; refine ⟨_, rfl, ?_⟩; have HO497 := Aside0.mk (Kd.R_lower (Kd.R_new' (Kd.R_new' ho0 (Kd.R_lt (pxr HO_47))) (Kd.R_lt (pxr HO493))) (below_size (pxb HB))); replace HO_12 := Aside0.mk (Kd.R_below (pxr HO_12) hb); replace HO_13 := Aside0.mk (Kd.R_below (pxr HO_13) hb); replace HO_47 := Aside0.mk (Kd.R_elder' (pxr HO_47) (Kd.R_base ho0) hb); replace HO493 := Aside0.mk (Kd.R_elder' (pxr HO493) (Kd.R_base ho0) hb); replace HB := pxs HB hb; (try clear hb); (try clear hb2); (try clear hk); (try clear hi); (try clear ho0)))
       go_ret2
       exact ⟨_, by first | rfl | (simp [errW_none, errW_some] <;> rfl) | (simp [*, errW_none, errW_some] <;> rfl) | (simp [*, pxbeq, pxbne, errW_none, errW_some]; done), by (with_reducible repeat (first | apply Kd.R_alloc | apply Kd.R_drewN | apply Kd.R_drew)); exact Kd.R_mono HO497.out (fun _ hk => trivial), pxb HB⟩
   ·rw [if_neg c10] at H
    exact absurd H (by simp)
  ·rw [if_neg c7] at H
   have c7b0 : (t470 == 0) = false := beq_eq_false_iff_ne.mpr c7
   have c7b1 : (t470 != 0) = true := bne_iff_ne.mpr c7
   simp only [Option.some.injEq, Prod.mk.injEq] at H
   obtain ⟨rfl, rfl⟩ := H
   go_enter Try.func21, Try.ntmps21
   go_wp2_with (first | ((with_reducible refine gate_callee (f := 22) rfl ?_); refine goesL_ (some 20) rfl rfl Try.func22 (by kernel_rfl) rfl #[.string a0, .slice A1 l1.length c1] rfl (by (try simp only [List.map_toArray, List.map_cons, List.map_nil]); first | done | rfl | (simp only [List.length_drop, List.length_take]; rfl)) ?_; (with_reducible refine (edit_Apply.calls k a0 _ _ l1 t467 t468 _ ?side1 ?side2 A4.out).mono ?_); (case side1 => repeat (first | exact HR1.out | (with_reducible refine Kd.C_alloc ?_ _) | (with_reducible refine Kd.C_drewN ?_ _) | (with_reducible refine Kd.C_drew ?_))); (case side2 => exact HC1.out); rintro e w46 ⟨rfl, hb⟩; refine ⟨_, rfl, ?_⟩; replace HB := pxs HB hb; (try clear hb); (try clear hb2); (try clear hk); (try clear hi)) | ((with_reducible refine gate_callee (f := 22) rfl ?_); refine goesL_ (some 29) rfl rfl Try.func22 (by kernel_rfl) rfl #[.string t467, .slice A2 l2.length c2] rfl (by (try simp only [List.map_toArray, List.map_cons, List.map_nil]); first | done | rfl | (simp only [List.length_drop, List.length_take]; rfl)) ?_; (with_reducible refine (edit_Apply.calls k t467 _ _ l2 t469 t470 _ ?side1 ?side2 A6.out).mono ?_); (case side1 => exact pxc HR2 HB); (case side2 => exact HC2.out); rintro e w47 ⟨rfl, hb⟩; refine ⟨_, rfl, ?_⟩; replace HB := pxs HB hb; (try clear hb); (try clear hb2); (try clear hk); (try clear hi)))
   go_ret2
   exact ⟨_, by first | rfl | (simp [errW_none, errW_some] <;> rfl) | (simp [*, errW_none, errW_some] <;> rfl) | (simp [*, pxbeq, pxbne, errW_none, errW_some]; done), by first | exact Kd.R_nil _ _ _ _ _ | exact Kd.N_nil _ _ _ _ _ | exact Kd.V_nil _ _ _ _ _ | exact Kd.Q_nil _ _ _ _ _ | exact Kd.S_nil _ _ _ _ _, pxb HB⟩
 ·rw [if_neg c5] at H
  have c5b0 : (t468 == 0) = false := beq_eq_false_iff_ne.mpr c5
  have c5b1 : (t468 != 0) = true := bne_iff_ne.mpr c5
  simp only [Option.some.injEq, Prod.mk.injEq] at H
  obtain ⟨rfl, rfl⟩ := H
  go_enter Try.func21, Try.ntmps21
  go_wp2_with (first | ((with_reducible refine gate_callee (f := 22) rfl ?_); refine goesL_ (some 20) rfl rfl Try.func22 (by kernel_rfl) rfl #[.string a0, .slice A1 l1.length c1] rfl (by (try simp only [List.map_toArray, List.map_cons, List.map_nil]); first | done | rfl | (simp only [List.length_drop, List.length_take]; rfl)) ?_; (with_reducible refine (edit_Apply.calls k a0 _ _ l1 t467 t468 _ ?side1 ?side2 A4.out).mono ?_); (case side1 => repeat (first | exact HR1.out | (with_reducible refine Kd.C_alloc ?_ _) | (with_reducible refine Kd.C_drewN ?_ _) | (with_reducible refine Kd.C_drew ?_))); (case side2 => exact HC1.out); rintro e w48 ⟨rfl, hb⟩; refine ⟨_, rfl, ?_⟩; replace HB := pxs HB hb; (try clear hb); (try clear hb2); (try clear hk); (try clear hi)))
  go_ret2
  exact ⟨_, by first | rfl | (simp [errW_none, errW_some] <;> rfl) | (simp [*, errW_none, errW_some] <;> rfl) | (simp [*, pxbeq, pxbne, errW_none, errW_some]; done), by first | exact Kd.R_nil _ _ _ _ _ | exact Kd.N_nil _ _ _ _ _ | exact Kd.V_nil _ _ _ _ _ | exact Kd.Q_nil _ _ _ _ _ | exact Kd.S_nil _ _ _ _ _, pxb HB⟩

end Go.Proofs.Ytoljmjhmieaggaa.X
