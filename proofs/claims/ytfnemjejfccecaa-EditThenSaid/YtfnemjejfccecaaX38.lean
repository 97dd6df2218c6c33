/- What the program's functions answer, as Lean functions, and that each call does just that; no condition. Written by a program (px.py) out of the translation. -/
import Derived.Test.YtfnemjejfccecaaX0
import Derived.Test.YtfnemjejfccecaaX31
import Derived.Test.YtfnemjejfccecaaX37
import Derived.Test.YtfnemjejfccecaaX47
import Derived.Test.YtfnemjejfccecaaX46
import Derived.Test.YtfnemjejfccecaaX48
import Derived.Test.YtfnemjejfccecaaX49
namespace Go.Proofs.Ytfnemjejfccecaa.X
open Go.RowKit Go.Proofs.YtfnemjejfccecaaW.PrintWords Go.Proofs.YtfnemjejfccecaaW.PrintLast Go.Proofs.YtfnemjejfccecaaW.PrintMore
attribute [local go_sem] max2_int min2_int max_two min_two max_three min_three max_four min_four   -- for this text's walks alone
set_option linter.unusedVariables false
set_option linter.unusedSimpArgs false

/-! ### edit_Then: function 38 -/
def edit_Then.l0 : Nat → ByteArray → List (S82) → List (S82) → Int → List (S60) → Int → Int → Option ((List (S60)) × Int)
 | 0, _, _, _, _, _, _, _ => none
 | k + 1, x0, x12, x13, x14, x47, x48, x49 => if x49 < x48 then (if 0 ≤ x49 then (if x49 < (x47.length : Int) then ((edit_cut.f k x12 x14 ((rd_T60 x47 x49).f0.f0)).bind fun t486 => (if x13.length + t486.length < 5864062014805 then ((some (x13 ++ t486 : List (S82))).bind fun y489 => (if ((rd_T60 x47 x49).f1).toList = ([] : List UInt8) then (edit_Then.l0 k x0 x12 y489 ((rd_T60 x47 x49).f0.f1) x47 x48 (wrap64 (x49 + 1))) else (if y489.length < 5864062014805 then (edit_Then.l0 k x0 x12 (y489 ++ [(⟨(rd_T60 x47 x49).f1, (-1)⟩ : S82)]) ((rd_T60 x47 x49).f0.f1) x47 x48 (wrap64 (x49 + 1))) else (none)))) else (none))) else (none)) else (none)) else ((edit_between.f k (x0.size : Int) x13).bind fun t495 => ((edit_Tidy.f k x0 t495).bind fun bt498 => (some (bt498.1, bt498.2))))
def edit_Then.f (k : Nat) (a0 : ByteArray) (l1 : List (S60)) (l2 : List (S60)) : Option ((List (S60)) × Int) := (edit_Apply.f k a0 l1).bind fun bt471 => (if bt471.2 = 0 then ((edit_Apply.f k bt471.1 l2).bind fun bt473 => (if bt473.2 = 0 then ((edit_pieces.f k a0 l1).bind fun t475 => ((api_Edit.f l2).bind fun t478 => (if t478.length < 4398046511104 then ((some (t478 ++ [(⟨(⟨(bt471.1.size : Int), (bt471.1.size : Int)⟩ : S24), (⟨#[]⟩ : ByteArray)⟩ : S60)] : List (S60))).bind fun y481 => (edit_Then.l0 k a0 t475 ([] : List (S82)) 0 y481 (y481.length : Int) 0)) else (none)))) else (some (([] : List (S60)), bt473.2)))) else (some (([] : List (S60)), bt471.2)))
theorem edit_Then.mono_l : ∀ k, (∀ y0 y1 y2 y3 y4 y5 y6, LeO (edit_Then.l0 k y0 y1 y2 y3 y4 y5 y6) (edit_Then.l0 (k + 1) y0 y1 y2 y3 y4 y5 y6))
 | 0 => fun _ _ _ _ _ _ _ r h => by simp [edit_Then.l0] at h
 | k + 1 => by
  have ih0 := edit_Then.mono_l k
  ·intro y0 y1 y2 y3 y4 y5 y6
   unfold edit_Then.l0
   repeat' first
   | (with_reducible exact ih0 _ _ _ _ _ _ _)
   | (with_reducible exact edit_Apply.mono _ _ _)
   | (with_reducible exact edit_Tidy.mono _ _ _)
   | (with_reducible exact edit_between.mono _ _ _)
   | (with_reducible exact edit_cut.mono _ _ _ _)
   | (with_reducible exact edit_pieces.mono _ _ _)
   | (with_reducible exact LeO.refl _)
   | (with_reducible exact LeO.none _)
   | (with_reducible refine LeO.ite ?_ ?_)
   | (with_reducible refine LeO.bind ?_ (fun _ => ?_))
   | exact ih0 _ _ _ _ _ _ _
   | exact edit_Apply.mono _ _ _
   | exact edit_Tidy.mono _ _ _
   | exact edit_between.mono _ _ _
   | exact edit_cut.mono _ _ _ _
   | exact edit_pieces.mono _ _ _
   | exact LeO.none _
   | refine LeO.ite ?_ ?_
   | refine LeO.bind ?_ (fun _ => ?_)
theorem edit_Then.mono : ∀ a0 a1 a2 k, LeO (edit_Then.f k a0 a1 a2) (edit_Then.f (k + 1) a0 a1 a2) := by
 intro a0 a1 a2 k
 have ih0 := edit_Then.mono_l k
 unfold edit_Then.f
 repeat' first
   | (with_reducible exact ih0 _ _ _ _ _ _ _)
   | (with_reducible exact edit_Apply.mono _ _ _)
   | (with_reducible exact edit_Tidy.mono _ _ _)
   | (with_reducible exact edit_between.mono _ _ _)
   | (with_reducible exact edit_cut.mono _ _ _ _)
   | (with_reducible exact edit_pieces.mono _ _ _)
   | (with_reducible exact LeO.refl _)
   | (with_reducible exact LeO.none _)
   | (with_reducible refine LeO.ite ?_ ?_)
   | (with_reducible refine LeO.bind ?_ (fun _ => ?_))
   | exact ih0 _ _ _ _ _ _ _
   | exact edit_Apply.mono _ _ _
   | exact edit_Tidy.mono _ _ _
   | exact edit_between.mono _ _ _
   | exact edit_cut.mono _ _ _ _
   | exact edit_pieces.mono _ _ _
   | exact LeO.none _
   | refine LeO.ite ?_ ?_
   | refine LeO.bind ?_ (fun _ => ?_)
set_option maxHeartbeats 8000000 in
set_option maxRecDepth 100000 in
theorem edit_Then.calls (k : Nat) (a0 : ByteArray) (A1 : Option Addr) (c1 : Nat) (l1 : List (S60)) (A2 : Option Addr) (c2 : Nat) (l2 : List (S60)) (r1 : List (S60)) (r2 : Int) (w : World) (hr1 : Kd.C k60 w A1 l1.length l1) (hc1 : l1.length ≤ c1) (hr2 : Kd.C k60 w A2 l2.length l2) (hc2 : l2.length ≤ c2) (h : edit_Then.f k a0 l1 l2 = some (r1, r2)) :
  Calls Try.prog 38 #[.string a0, .slice A1 l1.length c1, .slice A2 l2.length c2] w fun e w' => ∃ v0_ : Value, e = .returned (.tuple #[v0_, .int .i64 r2]) ∧ Kd.R k60 60 w' w.heap.size (fun _ => True) v0_ r1 ∧ Below w.heap.size w w' := by
 have hu24 := Try.underlying24
 have hu60 := Try.underlying60
 have hu82 := Try.underlying82
 have HR1 := Aside0.mk hr1
 have HC1 := Aside0.mk hc1
 clear hr1 hc1
 have HR2 := Aside0.mk hr2
 have HC2 := Aside0.mk hc2
 clear hr2 hc2
 have HB := Aside0.mk (Below.refl w.heap.size w)
 have H : ((edit_Apply.f k a0 l1).bind fun bt471 => (if bt471.2 = 0 then ((edit_Apply.f k bt471.1 l2).bind fun bt473 => (if bt473.2 = 0 then ((edit_pieces.f k a0 l1).bind fun t475 => ((api_Edit.f l2).bind fun t478 => (if t478.length < 4398046511104 then ((some (t478 ++ [(⟨(⟨(bt471.1.size : Int), (bt471.1.size : Int)⟩ : S24), (⟨#[]⟩ : ByteArray)⟩ : S60)] : List (S60))).bind fun y481 => (edit_Then.l0 k a0 t475 ([] : List (S82)) 0 y481 (y481.length : Int) 0)) else (none)))) else (some (([] : List (S60)), bt473.2)))) else (some (([] : List (S60)), bt471.2)))) = some (r1, r2) := h
 clear h
 replace H := Option.bind_eq_some_iff.mp H
 obtain ⟨⟨t471, t472⟩, A40, H⟩ := H
 replace H : (if t472 = 0 then ((edit_Apply.f k t471 l2).bind fun bt473 => (if bt473.2 = 0 then ((edit_pieces.f k a0 l1).bind fun t475 => ((api_Edit.f l2).bind fun t478 => (if t478.length < 4398046511104 then ((some (t478 ++ [(⟨(⟨(t471.size : Int), (t471.size : Int)⟩ : S24), (⟨#[]⟩ : ByteArray)⟩ : S60)] : List (S60))).bind fun y481 => (edit_Then.l0 k a0 t475 ([] : List (S82)) 0 y481 (y481.length : Int) 0)) else (none)))) else (some (([] : List (S60)), bt473.2)))) else (some (([] : List (S60)), t472))) = some (r1, r2) := H
 have A4 := Aside0.mk A40
 clear A40
 by_cases c5 : t472 = 0
 ·rw [if_pos c5] at H
  have c5b0 : (t472 == 0) = true := beq_iff_eq.mpr c5
  have c5b1 : (t472 != 0) = false := bne_eq_false_iff_eq.mpr c5
  clear c5
  replace H := Option.bind_eq_some_iff.mp H
  obtain ⟨⟨t473, t474⟩, A60, H⟩ := H
  replace H : (if t474 = 0 then ((edit_pieces.f k a0 l1).bind fun t475 => ((api_Edit.f l2).bind fun t478 => (if t478.length < 4398046511104 then ((some (t478 ++ [(⟨(⟨(t471.size : Int), (t471.size : Int)⟩ : S24), (⟨#[]⟩ : ByteArray)⟩ : S60)] : List (S60))).bind fun y481 => (edit_Then.l0 k a0 t475 ([] : List (S82)) 0 y481 (y481.length : Int) 0)) else (none)))) else (some (([] : List (S60)), t474))) = some (r1, r2) := H
  have A6 := Aside0.mk A60
  clear A60
  by_cases c7 : t474 = 0
  ·rw [if_pos c7] at H
   have c7b0 : (t474 == 0) = true := beq_iff_eq.mpr c7
   have c7b1 : (t474 != 0) = false := bne_eq_false_iff_eq.mpr c7
   clear c7
   replace H := Option.bind_eq_some_iff.mp H
   obtain ⟨t475, A80, H⟩ := H
   replace H : ((api_Edit.f l2).bind fun t478 => (if t478.length < 4398046511104 then ((some (t478 ++ [(⟨(⟨(t471.size : Int), (t471.size : Int)⟩ : S24), (⟨#[]⟩ : ByteArray)⟩ : S60)] : List (S60))).bind fun y481 => (edit_Then.l0 k a0 t475 ([] : List (S82)) 0 y481 (y481.length : Int) 0)) else (none))) = some (r1, r2) := H
   have A8 := Aside0.mk A80
   clear A80
   replace H := Option.bind_eq_some_iff.mp H
   obtain ⟨t478, A90, H⟩ := H
   replace H : (if t478.length < 4398046511104 then ((some (t478 ++ [(⟨(⟨(t471.size : Int), (t471.size : Int)⟩ : S24), (⟨#[]⟩ : ByteArray)⟩ : S60)] : List (S60))).bind fun y481 => (edit_Then.l0 k a0 t475 ([] : List (S82)) 0 y481 (y481.length : Int) 0)) else (none)) = some (r1, r2) := H
   have A9 := Aside0.mk A90
   clear A90
   by_cases c10 : t478.length < 4398046511104
   ·rw [if_pos c10] at H
    have LMc10 := Aside0.mk c10
    clear c10
    obtain ⟨y481, hy481⟩ : ∃ y_ : List (S60), y_ = (t478 ++ [(⟨(⟨(t471.size : Int), (t471.size : Int)⟩ : S24), (⟨#[]⟩ : ByteArray)⟩ : S60)]) := ⟨_, rfl⟩
    replace H : (edit_Then.l0 k a0 t475 ([] : List (S82)) 0 y481 (y481.length : Int) 0) = some (r1, r2) := by first | (rw [hy481]; with_reducible exact H) | (have H2_ := (Option.bind_some _ _).symm.trans H; rw [hy481]; with_reducible exact H2_) | (have H2_ := (Option.bind_some _ _).symm.trans H; with_reducible exact H2_) | with_reducible exact H | (rw [hy481]; exact H) | exact H
    have Ny481 := Aside0.mk hy481
    clear hy481
    have H' := Aside0.mk H
    clear H
    go_enter Try.func38, Try.ntmps38
    go_wp2_with (first | ((with_reducible refine gate_callee (f := 31) rfl ?_); refine goesL_ (some 20) rfl rfl Try.func31 (by kernel_rfl) rfl #[.string a0, .slice A1 l1.length c1] rfl (by (try simp only [List.map_toArray, List.map_cons, List.map_nil]); first | done | rfl | (simp only [List.length_drop, List.length_take]; rfl)) ?_; (with_reducible refine (edit_Apply.calls k a0 _ _ l1 t471 t472 _ ?side1 ?side2 A4.out).mono ?_); (case side1 => repeat (first | exact HR1.out | (with_reducible refine Kd.C_alloc ?_ _) | (with_reducible refine Kd.C_drewN ?_ _) | (with_reducible refine Kd.C_drew ?_))); (case side2 => exact HC1.out); rintro e w11 ⟨rfl, hb⟩; refine ⟨_, rfl, ?_⟩; have n0_ := pxs HB hb; clear HB; have HB := n0_; clear n0_; (try clear hb); (try clear hb2); (try clear hk); (try clear hi)) | ((with_reducible refine gate_callee (f := 31) rfl ?_); refine goesL_ (some 29) rfl rfl Try.func31 (by kernel_rfl) rfl #[.string t471, .slice A2 l2.length c2] rfl (by (try simp only [List.map_toArray, List.map_cons, List.map_nil]); first | done | rfl | (simp only [List.length_drop, List.length_take]; rfl)) ?_; (with_reducible refine (edit_Apply.calls k t471 _ _ l2 t473 t474 _ ?side1 ?side2 A6.out).mono ?_); (case side1 => exact pxc HR2 HB); (case side2 => exact HC2.out); rintro e w12 ⟨rfl, hb⟩; refine ⟨_, rfl, ?_⟩; have n0_ := pxs HB hb; clear HB; have HB := n0_; clear n0_; (try clear hb); (try clear hb2); (try clear hk); (try clear hi)) | ((with_reducible refine gate_callee (f := 46) rfl ?_); refine goesL_ (some 37) rfl rfl Try.func46 (by kernel_rfl) rfl #[.string a0, .slice A1 l1.length c1] rfl (by (try simp only [List.map_toArray, List.map_cons, List.map_nil]); first | done | rfl | (simp only [List.length_drop, List.length_take]; rfl)) ?_; (with_reducible refine (edit_pieces.calls k a0 _ _ l1 t475 _ ?side1 ?side2 A8.out).mono ?_); (case side1 => exact pxc HR1 HB); (case side2 => exact HC1.out); rintro e w13 ⟨v476, rfl, ho0, hb⟩; refine ⟨_, rfl, ?_⟩; have n0_ := Aside0.mk (Kd.R_lower ho0 (below_size (pxb HB))); have n1_ := pxs HB hb; clear HB; have HO477 := n0_; have HB := n1_; clear n0_ n1_; (try clear hb); (try clear hb2); (try clear hk); (try clear hi); (try clear ho0)) | ((with_reducible refine gate_callee (f := 47) rfl ?_); refine goesL_ (some 39) rfl rfl Try.func47 (by kernel_rfl) rfl #[.slice A2 l2.length c2] rfl (by (try simp only [List.map_toArray, List.map_cons, List.map_nil]); first | done | rfl | (simp only [List.length_drop, List.length_take]; rfl)) ?_; (with_reducible refine (api_Edit.calls _ _ l2 t478 _ ?side1 ?side2 A9.out).mono ?_); (case side1 => exact pxc HR2 HB); (case side2 => exact HC2.out); rintro e w14 ⟨v479, rfl, ho0, hb⟩; refine ⟨_, rfl, ?_⟩; have n0_ := Aside0.mk (Kd.R_below (pxr HO477) hb); have n1_ := Aside0.mk (Kd.R_lower ho0 (below_size (pxb HB))); have n2_ := pxs HB hb; clear HO477; clear HB; have HO477 := n0_; have HO480 := n1_; have HB := n2_; clear n0_ n1_ n2_; (try clear hb); (try clear hb2); (try clear hk); (try clear hi); (try clear ho0)) | ((with_reducible refine gate_builtin (b := .append) (xs := #[.tmp 39, .tmp 46]) rfl ?_); at_builtin; refine Kd.R_append k60 (w0 := w) w.heap.size rfl (.tmp 39) (.tmp 46) 50 60 (.agg #[(.int .i64 0), (.int .i64 0), (.string ⟨#[]⟩)]) 32 rfl Try.underlying50 info60 rfl (by decide) (by omega) v479 t478 (⟨(⟨(t471.size : Int), (t471.size : Int)⟩ : S24), (⟨#[]⟩ : ByteArray)⟩ : S60) [.int .i64 (t471.size : Int), .int .i64 (t471.size : Int), .string (⟨#[]⟩ : ByteArray)] (fun _ => True) (fun _ => False) rfl rfl ?aP (fun _ hk => hk.elim) ?aF ?aO ?aB ?aS ?aL ?_; (case aP => exact k60_mkM _ _ _ (⟨(⟨(t471.size : Int), (t471.size : Int)⟩ : S24), (⟨#[]⟩ : ByteArray)⟩ : S60)); (case aB => exact (pxb HB)); (case aF => exact (fun _ _ => trivial)); (case aO => exact (pxr HO480)); (case aS => exact (below_size (pxb HB))); (case aL => have := LMc10.out; omega); intro v482 w15 ho hb hg hat; rw [← Ny481.out] at ho; have n0_ := Aside0.mk (Kd.R_over' (pxr HO477) (Kd.R_typed (pxr HO480)) (by decide) hg); have n1_ := Aside0.mk (hb); have n2_ := Aside0.mk (ho); clear HO477; clear HB; clear HO480; have HO477 := n0_; have HB := n1_; have HO483 := n2_; clear n0_ n1_ n2_; clear ho hb hg hat; obtain ⟨Ao16, co16, eo16⟩ := Kd.R_slice HO483.out; subst eo16))
    go_loopg [13, 14, 49] k (fun kq v13 v14 v49 w' => ∃ (x13_1 : List (S82)) (x14_1 : Int) (x49_1 : Int), v14 = .int .i64 x14_1 ∧ v49 = .int .i64 x49_1 ∧ Aside0 (edit_Then.l0 kq a0 t475 x13_1 x14_1 y481 (y481.length : Int) x49_1 = some (r1, r2)) ∧ Aside0 (kq ≤ k) ∧ Aside0 (Kd.R k82 82 w' w.heap.size (fun k_ => some k_ ≠ (v13 : Value).ownBlock) v476 t475) ∧ Aside0 (Kd.R k82 82 w' w.heap.size (fun k_ => some k_ ≠ (v476 : Value).ownBlock) v13 x13_1) ∧ Aside0 (Kd.R k60 60 w' w.heap.size (fun _ => True) (.slice Ao16 y481.length co16) y481) ∧ Aside0 (Below w.heap.size w w'))
    case atStart => exact ⟨(([] : List (S82))), (0), (0), (by first | rfl | (simp; done) | (simp [*]; done)), (by first | rfl | (simp; done) | (simp [*]; done)), H', ⟨Nat.le_refl _⟩, ⟨by (with_reducible repeat (first | apply Kd.R_alloc | apply Kd.R_drewN | apply Kd.R_drew)); exact Kd.R_mono HO477.out (fun _ hk => (by simp [Value.ownBlock]))⟩, ⟨by first | exact Kd.R_nil _ _ _ _ _ | exact Kd.N_nil _ _ _ _ _ | exact Kd.V_nil _ _ _ _ _ | exact Kd.Q_nil _ _ _ _ _ | exact Kd.S_nil _ _ _ _ _⟩, ⟨pxr HO483⟩, ⟨pxb HB⟩⟩
    case round =>
     clear H'
     try clear c1
     try clear c2
     try clear p2
     try clear c3
     try clear c4
     try clear c5
     try clear c5b0
     try clear c5b1
     try clear c7
     try clear c7b0
     try clear c7b1
     try clear c10
     obtain ⟨x13_1, x14_1, x49_1, rfl, rfl, HA, HK1, HO_12, HO_13, HO_47, HB⟩ := hrel
     cases gk with
     | zero => exact absurd HA.out (by simp [edit_Then.l0])
     | succ k1 =>
      have H := HA.out
      clear HA
      simp only [edit_Then.l0] at H
      by_cases c17 : x49_1 < (y481.length : Int)
      ·rw [if_pos c17] at H
       have c17b0 : decide (x49_1 < (y481.length : Int)) = true := decide_eq_true c17
       clear c17
       by_cases c18 : 0 ≤ x49_1
       ·rw [if_pos c18] at H
        have c18b0 : decide (0 ≤ x49_1) = true := decide_eq_true c18
        clear c18
        by_cases c19 : x49_1 < (y481.length : Int)
        ·rw [if_pos c19] at H
         have c19b0 : decide (x49_1 < (y481.length : Int)) = true := decide_eq_true c19
         clear c19
         replace H := Option.bind_eq_some_iff.mp H
         obtain ⟨t486, A200, H⟩ := H
         replace H : (if x13_1.length + t486.length < 5864062014805 then ((some (x13_1 ++ t486 : List (S82))).bind fun y489 => (if ((rd_T60 y481 x49_1).f1).toList = ([] : List UInt8) then (edit_Then.l0 k1 a0 t475 y489 ((rd_T60 y481 x49_1).f0.f1) y481 (y481.length : Int) (wrap64 (x49_1 + 1))) else (if y489.length < 5864062014805 then (edit_Then.l0 k1 a0 t475 (y489 ++ [(⟨(rd_T60 y481 x49_1).f1, (-1)⟩ : S82)]) ((rd_T60 y481 x49_1).f0.f1) y481 (y481.length : Int) (wrap64 (x49_1 + 1))) else (none)))) else (none)) = some (r1, r2) := H
         have A20 := Aside0.mk A200
         clear A200
         by_cases c21 : x13_1.length + t486.length < 5864062014805
         ·rw [if_pos c21] at H
          have LMc21 := Aside0.mk c21
          clear c21
          obtain ⟨y489, hy489⟩ : ∃ y_ : List (S82), y_ = (x13_1 ++ t486) := ⟨_, rfl⟩
          replace H : (if ((rd_T60 y481 x49_1).f1).toList = ([] : List UInt8) then (edit_Then.l0 k1 a0 t475 y489 ((rd_T60 y481 x49_1).f0.f1) y481 (y481.length : Int) (wrap64 (x49_1 + 1))) else (if y489.length < 5864062014805 then (edit_Then.l0 k1 a0 t475 (y489 ++ [(⟨(rd_T60 y481 x49_1).f1, (-1)⟩ : S82)]) ((rd_T60 y481 x49_1).f0.f1) y481 (y481.length : Int) (wrap64 (x49_1 + 1))) else (none))) = some (r1, r2) := by first | (rw [hy489]; with_reducible exact H) | (have H2_ := (Option.bind_some _ _).symm.trans H; rw [hy489]; with_reducible exact H2_) | (have H2_ := (Option.bind_some _ _).symm.trans H; with_reducible exact H2_) | with_reducible exact H | (rw [hy489]; exact H) | exact H
          have Ny489 := Aside0.mk hy489
          clear hy489
          by_cases c22 : ((rd_T60 y481 x49_1).f1).toList = ([] : List UInt8)
          ·rw [if_pos c22] at H
           have c22b0 : (((rd_T60 y481 x49_1).f1).toList == ([] : List UInt8)) = true := beq_iff_eq.mpr c22
           have c22b1 : (((rd_T60 y481 x49_1).f1).toList != ([] : List UInt8)) = false := bne_eq_false_iff_eq.mpr c22
           clear c22
           have H' := Aside0.mk H
           clear H
           have p484 : 0 ≤ (x49_1 : Int) := of_decide_eq_true (by first | (with_reducible assumption) | assumption)
           have q484 : x49_1 < (y481.length : Int) := of_decide_eq_true (by first | (with_reducible assumption) | assumption)
           obtain ⟨ad484, e484, hx484_0, hx484_1, hx484_2⟩ := at_T60 (Kd.R_reads' HO_47.out).2.2 x49_1 p484 q484
           cases e484
           replace p484 := eq_true p484
           replace q484 := eq_true q484
           go_wp2_with (first | ((with_reducible refine gate_dst (N := 16) rfl ?_); refine box_event ?hg (N := 16) ?hd (cs := #[.int .i64 0, .int .i64 0, .string (⟨#[]⟩ : ByteArray)]) (t := 60) ?hr ?_; (case hd => rfl); (case hg => rfl); (case hr => first | (go_simp; done) | (go_simp; rfl)); intro gb485 hg w23 hbox hb; have n0_ := Aside0.mk (Kd.R_below (pxr HO_12) hb); have n1_ := Aside0.mk (Kd.R_below (pxr HO_13) hb); have n2_ := Aside0.mk (Kd.R_below (Kd.R_elderB (pxr HO_47) gb485 (Nat.le_of_eq hg.symm)) hb); have n3_ := pxs HB hb; have n4_ := Aside0.mk (hbox); have n5_ := Aside0.mk ((by rw [hg]; exact (below_size (pxb HB)) : w.heap.size ≤ gb485)); have n6_ := Aside0.mk ((by rw [hg]; exact (below_size (pxb HB)) : w.heap.size ≤ gb485)); clear HO_12; clear HO_13; clear HO_47; clear HB; have HO_12 := n0_; have HO_13 := n1_; have HO_47 := n2_; have HB := n3_; have BK485 := n4_; have GW485 := n5_; have GE485 := n6_; clear n0_ n1_ n2_ n3_ n4_ n5_ n6_; clear hb hbox hg; have hcz24_0 : w23.cell? ⟨gb485, 0, none⟩ = some (.int .i64 0) := (blk_cell BK485.out 0).trans rfl; have hcz24_1 : w23.cell? ⟨gb485, 1, none⟩ = some (.int .i64 0) := (blk_cell BK485.out 1).trans rfl; have hcz24_2 : w23.cell? ⟨gb485, 2, none⟩ = some (.string (⟨#[]⟩ : ByteArray)) := (blk_cell BK485.out 2).trans rfl; have hfz24_0 := blk_frozen BK485.out 0; have hfz24_1 := blk_frozen BK485.out 1; have hfz24_2 := blk_frozen BK485.out 2; obtain ⟨Ao25, co25, eo25⟩ := Kd.R_slice HO_12.out; subst eo25) | ((with_reducible refine gate_callee (f := 48) rfl ?_); refine goesL_ (some 60) rfl rfl Try.func48 (by kernel_rfl) rfl #[.slice Ao25 t475.length co25, .agg #[.int .i64 x14_1, .int .i64 ((rd_T60 y481 x49_1).f0.f0)]] rfl (by (try simp only [List.map_toArray, List.map_cons, List.map_nil]); first | done | rfl | (simp only [List.length_drop, List.length_take]; rfl)) ?_; (with_reducible refine (edit_cut.calls k1 _ _ t475 x14_1 ((rd_T60 y481 x49_1).f0.f0) t486 _ ?side1 ?side2 A20.out).mono ?_); (case side1 => refine (Kd.R_reads' (e := 82) (base := w.heap.size) (ok := fun k_ => some k_ ≠ (u13 : Value).ownBlock) (n := t475.length) (c := co25) ?_).2.2; exact (by (with_reducible repeat (first | apply Kd.R_alloc | apply Kd.R_drewN | apply Kd.R_drew)); exact (Kd.R_mono (Kd.R_far (p := ⟨gb485, 2, none⟩) (Kd.R_far (p := ⟨gb485, 1, none⟩) (Kd.R_far (p := ⟨gb485, 0, none⟩) (Kd.R_types HO_12.out BK485.out (by decide)) (fun _ hk => hk.2) (.int .i64 ((rd_T60 y481 x49_1).f0.f0))) (fun _ hk => hk.2) (.int .i64 ((rd_T60 y481 x49_1).f0.f1))) (fun _ hk => hk.2) (.string ((rd_T60 y481 x49_1).f1))) (fun _ h_ => h_.1)))); (case side2 => exact (Kd.R_reads' HO_12.out).2.1); rintro e w26 ⟨v487, rfl, ho0, hb⟩; refine ⟨_, rfl, ?_⟩; have n0_ := Aside0.mk (Kd.R_elder' (by (with_reducible repeat (first | apply Kd.R_alloc | apply Kd.R_drewN | apply Kd.R_drew)); exact (Kd.R_mono (Kd.R_far (p := ⟨gb485, 2, none⟩) (Kd.R_far (p := ⟨gb485, 1, none⟩) (Kd.R_far (p := ⟨gb485, 0, none⟩) (Kd.R_types HO_12.out BK485.out (by decide)) (fun _ hk => hk.2) (.int .i64 ((rd_T60 y481 x49_1).f0.f0))) (fun _ hk => hk.2) (.int .i64 ((rd_T60 y481 x49_1).f0.f1))) (fun _ hk => hk.2) (.string ((rd_T60 y481 x49_1).f1))) (fun _ h_ => h_.1))) (Kd.R_base ho0) hb); have n1_ := Aside0.mk (Kd.R_elder' (by (with_reducible repeat (first | apply Kd.R_alloc | apply Kd.R_drewN | apply Kd.R_drew)); exact (Kd.R_mono (Kd.R_far (p := ⟨gb485, 2, none⟩) (Kd.R_far (p := ⟨gb485, 1, none⟩) (Kd.R_far (p := ⟨gb485, 0, none⟩) (Kd.R_types HO_13.out BK485.out (by decide)) (fun _ hk => hk.2) (.int .i64 ((rd_T60 y481 x49_1).f0.f0))) (fun _ hk => hk.2) (.int .i64 ((rd_T60 y481 x49_1).f0.f1))) (fun _ hk => hk.2) (.string ((rd_T60 y481 x49_1).f1))) (fun _ h_ => h_.1))) (Kd.R_base ho0) hb); have n2_ := Aside0.mk (Kd.R_below (by (with_reducible repeat (first | apply Kd.R_alloc | apply Kd.R_drewN | apply Kd.R_drew)); exact (Kd.R_mono (Kd.R_far (p := ⟨gb485, 2, none⟩) (Kd.R_far (p := ⟨gb485, 1, none⟩) (Kd.R_far (p := ⟨gb485, 0, none⟩) (Kd.R_mono HO_47.out (fun k_ hk => (⟨hk, hk.2⟩ : _ ∧ k_ ≠ gb485))) (fun _ hk => hk.2) (.int .i64 ((rd_T60 y481 x49_1).f0.f0))) (fun _ hk => hk.2) (.int .i64 ((rd_T60 y481 x49_1).f0.f1))) (fun _ hk => hk.2) (.string ((rd_T60 y481 x49_1).f1))) (fun _ h_ => h_.1))) hb); have n3_ := Aside0.mk (Kd.R_lower (Kd.R_new' (Kd.R_new' ho0 (Kd.R_lt (by (with_reducible repeat (first | apply Kd.R_alloc | apply Kd.R_drewN | apply Kd.R_drew)); exact (Kd.R_mono (Kd.R_far (p := ⟨gb485, 2, none⟩) (Kd.R_far (p := ⟨gb485, 1, none⟩) (Kd.R_far (p := ⟨gb485, 0, none⟩) (Kd.R_types HO_12.out BK485.out (by decide)) (fun _ hk => hk.2) (.int .i64 ((rd_T60 y481 x49_1).f0.f0))) (fun _ hk => hk.2) (.int .i64 ((rd_T60 y481 x49_1).f0.f1))) (fun _ hk => hk.2) (.string ((rd_T60 y481 x49_1).f1))) (fun _ h_ => h_.1))))) (Kd.R_lt (by (with_reducible repeat (first | apply Kd.R_alloc | apply Kd.R_drewN | apply Kd.R_drew)); exact (Kd.R_mono (Kd.R_far (p := ⟨gb485, 2, none⟩) (Kd.R_far (p := ⟨gb485, 1, none⟩) (Kd.R_far (p := ⟨gb485, 0, none⟩) (Kd.R_types HO_13.out BK485.out (by decide)) (fun _ hk => hk.2) (.int .i64 ((rd_T60 y481 x49_1).f0.f0))) (fun _ hk => hk.2) (.int .i64 ((rd_T60 y481 x49_1).f0.f1))) (fun _ hk => hk.2) (.string ((rd_T60 y481 x49_1).f1))) (fun _ h_ => h_.1))))) (below_size (pxb HB))); have n4_ := Aside0.mk (blk_below (g := gb485) (o := .cells #[.int .i64 ((rd_T60 y481 x49_1).f0.f0), .int .i64 ((rd_T60 y481 x49_1).f0.f1), .string ((rd_T60 y481 x49_1).f1)] 60 (0, 0)) (by (with_reducible repeat (first | refine blk_drewN ?_ _ | refine blk_drew ?_ | refine blk_alloc ?_ _)); refine blk_put (cs := #[.int .i64 ((rd_T60 y481 x49_1).f0.f0), .int .i64 ((rd_T60 y481 x49_1).f0.f1), .string (⟨#[]⟩ : ByteArray)]) ?_ 2 _ rfl; (with_reducible repeat (first | refine blk_drewN ?_ _ | refine blk_drew ?_ | refine blk_alloc ?_ _)); refine blk_put (cs := #[.int .i64 ((rd_T60 y481 x49_1).f0.f0), .int .i64 0, .string (⟨#[]⟩ : ByteArray)]) ?_ 1 _ rfl; (with_reducible repeat (first | refine blk_drewN ?_ _ | refine blk_drew ?_ | refine blk_alloc ?_ _)); refine blk_put (cs := #[.int .i64 0, .int .i64 0, .string (⟨#[]⟩ : ByteArray)]) ?_ 0 _ rfl; (with_reducible repeat (first | refine blk_drewN ?_ _ | refine blk_drew ?_ | refine blk_alloc ?_ _)); exact BK485.out) hb); have n5_ := pxs HB hb; clear HO_12; clear HO_13; clear HO_47; clear BK485; clear HB; have HO_12 := n0_; have HO_13 := n1_; have HO_47 := n2_; have HO488 := n3_; have BK485 := n4_; have HB := n5_; clear n0_ n1_ n2_ n3_ n4_ n5_; (try clear hb); (try clear hb2); (try clear hk); (try clear hi); (try clear ho0); obtain ⟨Ao28, co28, eo28⟩ := Kd.R_slice HO488.out; subst eo28) | ((with_reducible refine gate_builtin (b := .append) (xs := #[.tmp 53, .tmp 60]) rfl ?_); at_builtin; refine Kd.R_append_rows k82 (w0 := w) w.heap.size rfl (.tmp 53) (.tmp 60) 77 82 (.agg #[(.string ⟨#[]⟩), (.int .i64 0)]) 24 rfl Try.underlying77 info82 rfl (by decide) (by omega) u13 x13_1 t486 _ _ _ (fun k_ => some k_ ≠ (.slice Ao25 t475.length co25 : Value).ownBlock ∧ some k_ ≠ (.slice Ao28 t486.length co28 : Value).ownBlock) (fun _ => False) rfl rfl ?aO ?aR (fun _ _ h => h) (fun _ h => h.elim) ?aF ?aB ?aS ?aL ?_; (case aR => repeat (first | exact (Kd.R_reads' HO488.out).2.2 | (with_reducible refine Kd.C_alloc ?_ _) | (with_reducible refine Kd.C_drewN ?_ _) | (with_reducible refine Kd.C_drew ?_))); (case aB => exact (pxb HB)); (case aF => exact (fun k_ hk => ⟨Kd.fresh' (Kd.R_lt (pxr HO_12)) k_ hk, Kd.fresh' (Kd.R_lt (pxr HO488)) k_ hk⟩)); (case aO => exact (pxr HO_13)); (case aS => exact (below_size (pxb HB))); (case aL => have := LMc21.out; omega); intro v490 w27 ho hb hg hat; rw [← Ny489.out] at ho; have n0_ := Aside0.mk (Kd.R_after (ok := (fun k_ => some k_ ≠ (.slice Ao28 t486.length co28 : Value).ownBlock)) (by (with_reducible repeat (first | apply Kd.R_alloc | apply Kd.R_drewN | apply Kd.R_drew)); exact Kd.R_mono HO_12.out (fun _ hk => ⟨hk.2, hk.1⟩)) hg hat); have n1_ := Aside0.mk (Kd.R_over' (pxr HO_47) (Kd.R_typed (pxr HO_13)) (by decide) hg); have n2_ := Aside0.mk (blk_grown (g := gb485) (o := .cells #[.int .i64 ((rd_T60 y481 x49_1).f0.f0), .int .i64 ((rd_T60 y481 x49_1).f0.f1), .string ((rd_T60 y481 x49_1).f1)] 60 (0, 0)) (pxq BK485) hg (Kd.R_ne HO_13.out BK485.out (by decide))); have n3_ := Aside0.mk (Kd.R_after (ok := (fun k_ => some k_ ≠ (.slice Ao25 t475.length co25 : Value).ownBlock)) (by (with_reducible repeat (first | apply Kd.R_alloc | apply Kd.R_drewN | apply Kd.R_drew)); exact Kd.R_mono HO488.out (fun _ hk => ⟨hk.1.2, hk.2⟩)) hg hat); have n4_ := Aside0.mk (hb); have n5_ := Aside0.mk (ho); clear HO_12; clear HO_47; clear BK485; clear HO488; clear HB; clear HO_13; have HO_12 := n0_; have HO_47 := n1_; have BK485 := n2_; have HO488 := n3_; have HB := n4_; have HO491 := n5_; clear n0_ n1_ n2_ n3_ n4_ n5_; clear ho hb hg hat; have hcz29_0 : w27.cell? ⟨gb485, 0, none⟩ = some (.int .i64 ((rd_T60 y481 x49_1).f0.f0)) := (blk_cell BK485.out 0).trans rfl; have hcz29_1 : w27.cell? ⟨gb485, 1, none⟩ = some (.int .i64 ((rd_T60 y481 x49_1).f0.f1)) := (blk_cell BK485.out 1).trans rfl; have hcz29_2 : w27.cell? ⟨gb485, 2, none⟩ = some (.string ((rd_T60 y481 x49_1).f1)) := (blk_cell BK485.out 2).trans rfl; have hfz29_0 := blk_frozen BK485.out 0; have hfz29_1 := blk_frozen BK485.out 1; have hfz29_2 := blk_frozen BK485.out 2))
           go_roundg k1
           case measure => have := HK1.out; omega
           case rel => exact ⟨(y489), ((rd_T60 y481 x49_1).f0.f1), (wrap64 (x49_1 + 1)), (by first | rfl | (simp; done) | (simp [*]; done)), (by first | rfl | (simp; done) | (simp [*]; done)), H', ⟨by have := HK1.out; omega⟩, ⟨by (with_reducible repeat (first | apply Kd.R_alloc | apply Kd.R_drewN | apply Kd.R_drew)); exact Kd.R_mono HO_12.out (fun _ hk => hk.2)⟩, ⟨by (with_reducible repeat (first | apply Kd.R_alloc | apply Kd.R_drewN | apply Kd.R_drew)); exact Kd.R_mono HO491.out (fun _ hk => hk.1)⟩, ⟨by (with_reducible repeat (first | apply Kd.R_alloc | apply Kd.R_drewN | apply Kd.R_drew)); exact Kd.R_mono HO_47.out (fun _ hk => trivial)⟩, ⟨pxb HB⟩⟩
          ·rw [if_neg c22] at H
           have c22b0 : (((rd_T60 y481 x49_1).f1).toList == ([] : List UInt8)) = false := beq_eq_false_iff_ne.mpr c22
           have c22b1 : (((rd_T60 y481 x49_1).f1).toList != ([] : List UInt8)) = true := bne_iff_ne.mpr c22
           by_cases c30 : y489.length < 5864062014805
           ·rw [if_pos c30] at H
            have LMc30 := Aside0.mk c30
            clear c30
            obtain ⟨y492, hy492⟩ : ∃ y_ : List (S82), y_ = (y489 ++ [(⟨(rd_T60 y481 x49_1).f1, (-1)⟩ : S82)]) := ⟨_, rfl⟩
            replace H : (edit_Then.l0 k1 a0 t475 y492 ((rd_T60 y481 x49_1).f0.f1) y481 (y481.length : Int) (wrap64 (x49_1 + 1))) = some (r1, r2) := by first | (rw [hy492]; with_reducible exact H) | (have H2_ := (Option.bind_some _ _).symm.trans H; rw [hy492]; with_reducible exact H2_) | (have H2_ := (Option.bind_some _ _).symm.trans H; with_reducible exact H2_) | with_reducible exact H | (rw [hy492]; exact H) | exact H
            have Ny492 := Aside0.mk hy492
            clear hy492
            have H' := Aside0.mk H
            clear H
            have p484 : 0 ≤ (x49_1 : Int) := of_decide_eq_true (by first | (with_reducible assumption) | assumption)
            have q484 : x49_1 < (y481.length : Int) := of_decide_eq_true (by first | (with_reducible assumption) | assumption)
            obtain ⟨ad484, e484, hx484_0, hx484_1, hx484_2⟩ := at_T60 (Kd.R_reads' HO_47.out).2.2 x49_1 p484 q484
            cases e484
            replace p484 := eq_true p484
            replace q484 := eq_true q484
            go_wp2_with (first | ((with_reducible refine gate_dst (N := 16) rfl ?_); refine box_event ?hg (N := 16) ?hd (cs := #[.int .i64 0, .int .i64 0, .string (⟨#[]⟩ : ByteArray)]) (t := 60) ?hr ?_; (case hd => rfl); (case hg => rfl); (case hr => first | (go_simp; done) | (go_simp; rfl)); intro gb485 hg w31 hbox hb; have n0_ := Aside0.mk (Kd.R_below (pxr HO_12) hb); have n1_ := Aside0.mk (Kd.R_below (pxr HO_13) hb); have n2_ := Aside0.mk (Kd.R_below (Kd.R_elderB (pxr HO_47) gb485 (Nat.le_of_eq hg.symm)) hb); have n3_ := pxs HB hb; have n4_ := Aside0.mk (hbox); have n5_ := Aside0.mk ((by rw [hg]; exact (below_size (pxb HB)) : w.heap.size ≤ gb485)); have n6_ := Aside0.mk ((by rw [hg]; exact (below_size (pxb HB)) : w.heap.size ≤ gb485)); clear HO_12; clear HO_13; clear HO_47; clear HB; have HO_12 := n0_; have HO_13 := n1_; have HO_47 := n2_; have HB := n3_; have BK485 := n4_; have GW485 := n5_; have GE485 := n6_; clear n0_ n1_ n2_ n3_ n4_ n5_ n6_; clear hb hbox hg; have hcz32_0 : w31.cell? ⟨gb485, 0, none⟩ = some (.int .i64 0) := (blk_cell BK485.out 0).trans rfl; have hcz32_1 : w31.cell? ⟨gb485, 1, none⟩ = some (.int .i64 0) := (blk_cell BK485.out 1).trans rfl; have hcz32_2 : w31.cell? ⟨gb485, 2, none⟩ = some (.string (⟨#[]⟩ : ByteArray)) := (blk_cell BK485.out 2).trans rfl; have hfz32_0 := blk_frozen BK485.out 0; have hfz32_1 := blk_frozen BK485.out 1; have hfz32_2 := blk_frozen BK485.out 2; obtain ⟨Ao33, co33, eo33⟩ := Kd.R_slice HO_12.out; subst eo33) | ((with_reducible refine gate_callee (f := 48) rfl ?_); refine goesL_ (some 60) rfl rfl Try.func48 (by kernel_rfl) rfl #[.slice Ao33 t475.length co33, .agg #[.int .i64 x14_1, .int .i64 ((rd_T60 y481 x49_1).f0.f0)]] rfl (by (try simp only [List.map_toArray, List.map_cons, List.map_nil]); first | done | rfl | (simp only [List.length_drop, List.length_take]; rfl)) ?_; (with_reducible refine (edit_cut.calls k1 _ _ t475 x14_1 ((rd_T60 y481 x49_1).f0.f0) t486 _ ?side1 ?side2 A20.out).mono ?_); (case side1 => refine (Kd.R_reads' (e := 82) (base := w.heap.size) (ok := fun k_ => some k_ ≠ (u13 : Value).ownBlock) (n := t475.length) (c := co33) ?_).2.2; exact (by (with_reducible repeat (first | apply Kd.R_alloc | apply Kd.R_drewN | apply Kd.R_drew)); exact (Kd.R_mono (Kd.R_far (p := ⟨gb485, 2, none⟩) (Kd.R_far (p := ⟨gb485, 1, none⟩) (Kd.R_far (p := ⟨gb485, 0, none⟩) (Kd.R_types HO_12.out BK485.out (by decide)) (fun _ hk => hk.2) (.int .i64 ((rd_T60 y481 x49_1).f0.f0))) (fun _ hk => hk.2) (.int .i64 ((rd_T60 y481 x49_1).f0.f1))) (fun _ hk => hk.2) (.string ((rd_T60 y481 x49_1).f1))) (fun _ h_ => h_.1)))); (case side2 => exact (Kd.R_reads' HO_12.out).2.1); rintro e w34 ⟨v487, rfl, ho0, hb⟩; refine ⟨_, rfl, ?_⟩; have n0_ := Aside0.mk (Kd.R_elder' (by (with_reducible repeat (first | apply Kd.R_alloc | apply Kd.R_drewN | apply Kd.R_drew)); exact (Kd.R_mono (Kd.R_far (p := ⟨gb485, 2, none⟩) (Kd.R_far (p := ⟨gb485, 1, none⟩) (Kd.R_far (p := ⟨gb485, 0, none⟩) (Kd.R_types HO_12.out BK485.out (by decide)) (fun _ hk => hk.2) (.int .i64 ((rd_T60 y481 x49_1).f0.f0))) (fun _ hk => hk.2) (.int .i64 ((rd_T60 y481 x49_1).f0.f1))) (fun _ hk => hk.2) (.string ((rd_T60 y481 x49_1).f1))) (fun _ h_ => h_.1))) (Kd.R_base ho0) hb); have n1_ := Aside0.mk (Kd.R_elder' (by (with_reducible repeat (first | apply Kd.R_alloc | apply Kd.R_drewN | apply Kd.R_drew)); exact (Kd.R_mono (Kd.R_far (p := ⟨gb485, 2, none⟩) (Kd.R_far (p := ⟨gb485, 1, none⟩) (Kd.R_far (p := ⟨gb485, 0, none⟩) (Kd.R_types HO_13.out BK485.out (by decide)) (fun _ hk => hk.2) (.int .i64 ((rd_T60 y481 x49_1).f0.f0))) (fun _ hk => hk.2) (.int .i64 ((rd_T60 y481 x49_1).f0.f1))) (fun _ hk => hk.2) (.string ((rd_T60 y481 x49_1).f1))) (fun _ h_ => h_.1))) (Kd.R_base ho0) hb); have n2_ := Aside0.mk (Kd.R_below (by (with_reducible repeat (first | apply Kd.R_alloc | apply Kd.R_drewN | apply Kd.R_drew)); exact (Kd.R_mono (Kd.R_far (p := ⟨gb485, 2, none⟩) (Kd.R_far (p := ⟨gb485, 1, none⟩) (Kd.R_far (p := ⟨gb485, 0, none⟩) (Kd.R_mono HO_47.out (fun k_ hk => (⟨hk, hk.2⟩ : _ ∧ k_ ≠ gb485))) (fun _ hk => hk.2) (.int .i64 ((rd_T60 y481 x49_1).f0.f0))) (fun _ hk => hk.2) (.int .i64 ((rd_T60 y481 x49_1).f0.f1))) (fun _ hk => hk.2) (.string ((rd_T60 y481 x49_1).f1))) (fun _ h_ => h_.1))) hb); have n3_ := Aside0.mk (Kd.R_lower (Kd.R_new' (Kd.R_new' ho0 (Kd.R_lt (by (with_reducible repeat (first | apply Kd.R_alloc | apply Kd.R_drewN | apply Kd.R_drew)); exact (Kd.R_mono (Kd.R_far (p := ⟨gb485, 2, none⟩) (Kd.R_far (p := ⟨gb485, 1, none⟩) (Kd.R_far (p := ⟨gb485, 0, none⟩) (Kd.R_types HO_12.out BK485.out (by decide)) (fun _ hk => hk.2) (.int .i64 ((rd_T60 y481 x49_1).f0.f0))) (fun _ hk => hk.2) (.int .i64 ((rd_T60 y481 x49_1).f0.f1))) (fun _ hk => hk.2) (.string ((rd_T60 y481 x49_1).f1))) (fun _ h_ => h_.1))))) (Kd.R_lt (by (with_reducible repeat (first | apply Kd.R_alloc | apply Kd.R_drewN | apply Kd.R_drew)); exact (Kd.R_mono (Kd.R_far (p := ⟨gb485, 2, none⟩) (Kd.R_far (p := ⟨gb485, 1, none⟩) (Kd.R_far (p := ⟨gb485, 0, none⟩) (Kd.R_types HO_13.out BK485.out (by decide)) (fun _ hk => hk.2) (.int .i64 ((rd_T60 y481 x49_1).f0.f0))) (fun _ hk => hk.2) (.int .i64 ((rd_T60 y481 x49_1).f0.f1))) (fun _ hk => hk.2) (.string ((rd_T60 y481 x49_1).f1))) (fun _ h_ => h_.1))))) (below_size (pxb HB))); have n4_ := Aside0.mk (blk_below (g := gb485) (o := .cells #[.int .i64 ((rd_T60 y481 x49_1).f0.f0), .int .i64 ((rd_T60 y481 x49_1).f0.f1), .string ((rd_T60 y481 x49_1).f1)] 60 (0, 0)) (by (with_reducible repeat (first | refine blk_drewN ?_ _ | refine blk_drew ?_ | refine blk_alloc ?_ _)); refine blk_put (cs := #[.int .i64 ((rd_T60 y481 x49_1).f0.f0), .int .i64 ((rd_T60 y481 x49_1).f0.f1), .string (⟨#[]⟩ : ByteArray)]) ?_ 2 _ rfl; (with_reducible repeat (first | refine blk_drewN ?_ _ | refine blk_drew ?_ | refine blk_alloc ?_ _)); refine blk_put (cs := #[.int .i64 ((rd_T60 y481 x49_1).f0.f0), .int .i64 0, .string (⟨#[]⟩ : ByteArray)]) ?_ 1 _ rfl; (with_reducible repeat (first | refine blk_drewN ?_ _ | refine blk_drew ?_ | refine blk_alloc ?_ _)); refine blk_put (cs := #[.int .i64 0, .int .i64 0, .string (⟨#[]⟩ : ByteArray)]) ?_ 0 _ rfl; (with_reducible repeat (first | refine blk_drewN ?_ _ | refine blk_drew ?_ | refine blk_alloc ?_ _)); exact BK485.out) hb); have n5_ := pxs HB hb; clear HO_12; clear HO_13; clear HO_47; clear BK485; clear HB; have HO_12 := n0_; have HO_13 := n1_; have HO_47 := n2_; have HO488 := n3_; have BK485 := n4_; have HB := n5_; clear n0_ n1_ n2_ n3_ n4_ n5_; (try clear hb); (try clear hb2); (try clear hk); (try clear hi); (try clear ho0); obtain ⟨Ao36, co36, eo36⟩ := Kd.R_slice HO488.out; subst eo36) | ((with_reducible refine gate_builtin (b := .append) (xs := #[.tmp 53, .tmp 60]) rfl ?_); at_builtin; refine Kd.R_append_rows k82 (w0 := w) w.heap.size rfl (.tmp 53) (.tmp 60) 77 82 (.agg #[(.string ⟨#[]⟩), (.int .i64 0)]) 24 rfl Try.underlying77 info82 rfl (by decide) (by omega) u13 x13_1 t486 _ _ _ (fun k_ => some k_ ≠ (.slice Ao33 t475.length co33 : Value).ownBlock ∧ some k_ ≠ (.slice Ao36 t486.length co36 : Value).ownBlock) (fun _ => False) rfl rfl ?aO ?aR (fun _ _ h => h) (fun _ h => h.elim) ?aF ?aB ?aS ?aL ?_; (case aR => repeat (first | exact (Kd.R_reads' HO488.out).2.2 | (with_reducible refine Kd.C_alloc ?_ _) | (with_reducible refine Kd.C_drewN ?_ _) | (with_reducible refine Kd.C_drew ?_))); (case aB => exact (pxb HB)); (case aF => exact (fun k_ hk => ⟨Kd.fresh' (Kd.R_lt (pxr HO_12)) k_ hk, Kd.fresh' (Kd.R_lt (pxr HO488)) k_ hk⟩)); (case aO => exact (pxr HO_13)); (case aS => exact (below_size (pxb HB))); (case aL => have := LMc21.out; omega); intro v490 w35 ho hb hg hat; rw [← Ny489.out] at ho; have n0_ := Aside0.mk (Kd.R_after (ok := (fun k_ => some k_ ≠ (.slice Ao36 t486.length co36 : Value).ownBlock)) (by (with_reducible repeat (first | apply Kd.R_alloc | apply Kd.R_drewN | apply Kd.R_drew)); exact Kd.R_mono HO_12.out (fun _ hk => ⟨hk.2, hk.1⟩)) hg hat); have n1_ := Aside0.mk (Kd.R_over' (pxr HO_47) (Kd.R_typed (pxr HO_13)) (by decide) hg); have n2_ := Aside0.mk (blk_grown (g := gb485) (o := .cells #[.int .i64 ((rd_T60 y481 x49_1).f0.f0), .int .i64 ((rd_T60 y481 x49_1).f0.f1), .string ((rd_T60 y481 x49_1).f1)] 60 (0, 0)) (pxq BK485) hg (Kd.R_ne HO_13.out BK485.out (by decide))); have n3_ := Aside0.mk (Kd.R_after (ok := (fun k_ => some k_ ≠ (.slice Ao33 t475.length co33 : Value).ownBlock)) (by (with_reducible repeat (first | apply Kd.R_alloc | apply Kd.R_drewN | apply Kd.R_drew)); exact Kd.R_mono HO488.out (fun _ hk => ⟨hk.1.2, hk.2⟩)) hg hat); have n4_ := Aside0.mk (hb); have n5_ := Aside0.mk (ho); clear HO_12; clear HO_47; clear BK485; clear HO488; clear HB; clear HO_13; have HO_12 := n0_; have HO_47 := n1_; have BK485 := n2_; have HO488 := n3_; have HB := n4_; have HO491 := n5_; clear n0_ n1_ n2_ n3_ n4_ n5_; clear ho hb hg hat; have hcz37_0 : w35.cell? ⟨gb485, 0, none⟩ = some (.int .i64 ((rd_T60 y481 x49_1).f0.f0)) := (blk_cell BK485.out 0).trans rfl; have hcz37_1 : w35.cell? ⟨gb485, 1, none⟩ = some (.int .i64 ((rd_T60 y481 x49_1).f0.f1)) := (blk_cell BK485.out 1).trans rfl; have hcz37_2 : w35.cell? ⟨gb485, 2, none⟩ = some (.string ((rd_T60 y481 x49_1).f1)) := (blk_cell BK485.out 2).trans rfl; have hfz37_0 := blk_frozen BK485.out 0; have hfz37_1 := blk_frozen BK485.out 1; have hfz37_2 := blk_frozen BK485.out 2) | ((with_reducible refine gate_builtin (b := .append) (xs := #[.tmp 65, .tmp 69]) rfl ?_); at_builtin; refine Kd.R_append k82 (w0 := w) w.heap.size rfl (.tmp 65) (.tmp 69) 77 82 (.agg #[(.string ⟨#[]⟩), (.int .i64 0)]) 24 rfl Try.underlying77 info82 rfl (by decide) (by omega) v490 y489 (⟨(rd_T60 y481 x49_1).f1, (-1)⟩ : S82) [.string ((rd_T60 y481 x49_1).f1), .int .i64 (-1)] (fun k_ => some k_ ≠ (.slice Ao33 t475.length co33 : Value).ownBlock ∧ some k_ ≠ (.slice Ao36 t486.length co36 : Value).ownBlock) (fun _ => False) rfl rfl ?aP (fun _ hk => hk.elim) ?aF ?aO ?aB ?aS ?aL ?_; (case aP => exact k82_mkM _ _ _ (⟨(rd_T60 y481 x49_1).f1, (-1)⟩ : S82)); (case aB => exact (pxb HB)); (case aF => exact (fun k_ hk => ⟨Kd.fresh' (Kd.R_lt (pxr HO_12)) k_ hk, Kd.fresh' (Kd.R_lt (pxr HO488)) k_ hk⟩)); (case aO => exact (pxr HO491)); (case aS => exact (below_size (pxb HB))); (case aL => have := LMc30.out; omega); intro v493 w38 ho hb hg hat; rw [← Ny492.out] at ho; have n0_ := Aside0.mk (Kd.R_after (ok := (fun k_ => some k_ ≠ (.slice Ao36 t486.length co36 : Value).ownBlock)) (pxr HO_12) hg hat); have n1_ := Aside0.mk (Kd.R_over' (pxr HO_47) (Kd.R_typed (pxr HO491)) (by decide) hg); have n2_ := Aside0.mk (blk_grown (g := gb485) (o := .cells #[.int .i64 ((rd_T60 y481 x49_1).f0.f0), .int .i64 ((rd_T60 y481 x49_1).f0.f1), .string ((rd_T60 y481 x49_1).f1)] 60 (0, 0)) (pxq BK485) hg (Kd.R_ne HO491.out BK485.out (by decide))); have n3_ := Aside0.mk (Kd.R_after (ok := (fun k_ => some k_ ≠ (.slice Ao33 t475.length co33 : Value).ownBlock)) (pxr HO488) hg hat); have n4_ := Aside0.mk (hb); have n5_ := Aside0.mk (ho); clear HO_12; clear HO_47; clear BK485; clear HO488; clear HB; clear HO491; have HO_12 := n0_; have HO_47 := n1_; have BK485 := n2_; have HO488 := n3_; have HB := n4_; have HO494 := n5_; clear n0_ n1_ n2_ n3_ n4_ n5_; clear ho hb hg hat; have hcz39_0 : w38.cell? ⟨gb485, 0, none⟩ = some (.int .i64 ((rd_T60 y481 x49_1).f0.f0)) := (blk_cell BK485.out 0).trans rfl; have hcz39_1 : w38.cell? ⟨gb485, 1, none⟩ = some (.int .i64 ((rd_T60 y481 x49_1).f0.f1)) := (blk_cell BK485.out 1).trans rfl; have hcz39_2 : w38.cell? ⟨gb485, 2, none⟩ = some (.string ((rd_T60 y481 x49_1).f1)) := (blk_cell BK485.out 2).trans rfl; have hfz39_0 := blk_frozen BK485.out 0; have hfz39_1 := blk_frozen BK485.out 1; have hfz39_2 := blk_frozen BK485.out 2))
            go_roundg k1
            case measure => have := HK1.out; omega
            case rel => exact ⟨(y492), ((rd_T60 y481 x49_1).f0.f1), (wrap64 (x49_1 + 1)), (by first | rfl | (simp; done) | (simp [*]; done)), (by first | rfl | (simp; done) | (simp [*]; done)), H', ⟨by have := HK1.out; omega⟩, ⟨by (with_reducible repeat (first | apply Kd.R_alloc | apply Kd.R_drewN | apply Kd.R_drew)); exact Kd.R_mono HO_12.out (fun _ hk => hk.2)⟩, ⟨by (with_reducible repeat (first | apply Kd.R_alloc | apply Kd.R_drewN | apply Kd.R_drew)); exact Kd.R_mono HO494.out (fun _ hk => hk.1)⟩, ⟨by (with_reducible repeat (first | apply Kd.R_alloc | apply Kd.R_drewN | apply Kd.R_drew)); exact Kd.R_mono HO_47.out (fun _ hk => trivial)⟩, ⟨pxb HB⟩⟩
           ·rw [if_neg c30] at H
            exact absurd H (by simp)
         ·rw [if_neg c21] at H
          exact absurd H (by simp)
        ·rw [if_neg c19] at H
         exact absurd H (by simp)
       ·rw [if_neg c18] at H
        exact absurd H (by simp)
      ·rw [if_neg c17] at H
       have c17b0 : decide (x49_1 < (y481.length : Int)) = false := decide_eq_false c17
       clear c17
       replace H := Option.bind_eq_some_iff.mp H
       obtain ⟨t495, A400, H⟩ := H
       replace H : ((edit_Tidy.f k1 a0 t495).bind fun bt498 => (some (bt498.1, bt498.2))) = some (r1, r2) := H
       have A40 := Aside0.mk A400
       clear A400
       replace H := Option.bind_eq_some_iff.mp H
       obtain ⟨⟨t498, t499⟩, A410, H⟩ := H
       replace H : (some (t498, t499)) = some (r1, r2) := H
       have A41 := Aside0.mk A410
       clear A410
       simp only [Option.some.injEq, Prod.mk.injEq] at H
       obtain ⟨rfl, rfl⟩ := H
       obtain ⟨Ao42, co42, eo42⟩ := Kd.R_slice HO_13.out
       subst eo42
       go_wp2_with (first | ((with_reducible refine gate_callee (f := 49) rfl ?_); refine goesL_ (some 79) rfl rfl Try.func49 (by kernel_rfl) rfl #[.int .i64 (a0.size : Int), .slice Ao42 x13_1.length co42] rfl (by (try simp only [List.map_toArray, List.map_cons, List.map_nil]); first | done | rfl | (simp only [List.length_drop, List.length_take]; rfl)) ?_; (with_reducible refine (edit_between.calls k1 (a0.size : Int) _ _ x13_1 t495 _ ?side1 ?side2 A40.out).mono ?_); (case side1 => repeat (first | exact (Kd.R_reads' HO_13.out).2.2 | (with_reducible refine Kd.C_alloc ?_ _) | (with_reducible refine Kd.C_drewN ?_ _) | (with_reducible refine Kd.C_drew ?_))); (case side2 => exact (Kd.R_reads' HO_13.out).2.1); rintro e w43 ⟨v496, rfl, ho0, hb⟩; refine ⟨_, rfl, ?_⟩; have n0_ := Aside0.mk (Kd.R_below (pxr HO_12) hb); have n1_ := Aside0.mk (Kd.R_below (pxr HO_13) hb); have n2_ := Aside0.mk (Kd.R_elder' (pxr HO_47) (Kd.R_base ho0) hb); have n3_ := Aside0.mk (Kd.R_lower (Kd.R_new' ho0 (Kd.R_lt (pxr HO_47))) (below_size (pxb HB))); have n4_ := pxs HB hb; clear HO_12; clear HO_13; clear HO_47; clear HB; have HO_12 := n0_; have HO_13 := n1_; have HO_47 := n2_; have HO497 := n3_; have HB := n4_; clear n0_ n1_ n2_ n3_ n4_; (try clear hb); (try clear hb2); (try clear hk); (try clear hi); (try clear ho0); obtain ⟨Ao44, co44, eo44⟩ := Kd.R_slice HO497.out; subst eo44) | ((with_reducible refine gate_callee (f := 37) rfl ?_); refine goesL_ (some 80) rfl rfl Try.func37 (by kernel_rfl) rfl #[.string a0, .slice Ao44 t495.length co44] rfl (by (try simp only [List.map_toArray, List.map_cons, List.map_nil]); first | done | rfl | (simp only [List.length_drop, List.length_take]; rfl)) ?_; (with_reducible refine (edit_Tidy.calls k1 a0 _ _ t495 t498 t499 _ ?side1 ?side2 A41.out).mono ?_); (case side1 => repeat (first | exact (Kd.R_reads' HO497.out).2.2 | (with_reducible refine Kd.C_alloc ?_ _) | (with_reducible refine Kd.C_drewN ?_ _) | (with_reducible refine Kd.C_drew ?_))); (case side2 => exact (Kd.R_reads' HO497.out).2.1); rintro e w45 ⟨v500, rfl, ho0, hb⟩; refine ⟨_, rfl, ?_⟩; have n0_ := Aside0.mk (Kd.R_below (pxr HO_12) hb); have n1_ := Aside0.mk (Kd.R_below (pxr HO_13) hb); have n2_ := Aside0.mk (Kd.R_elder' (pxr HO_47) (Kd.R_base ho0) hb); have n3_ := Aside0.mk (Kd.R_elder' (pxr HO497) (Kd.R_base ho0) hb); have n4_ := Aside0.mk (Kd.R_lower (Kd.R_new' (Kd.R_new' ho0 (Kd.R_lt (pxr HO_47))) (Kd.R_lt (pxr HO497))) (below_size (pxb HB))); have n5_ := pxs HB hb; clear HO_12; clear HO_13; clear HO_47; clear HO497; clear HB; have HO_12 := n0_; have HO_13 := n1_; have HO_47 := n2_; have HO497 := n3_; have HO501 := n4_; have HB := n5_; clear n0_ n1_ n2_ n3_ n4_ n5_; (try clear hb); (try clear hb2); (try clear hk); (try clear hi); (try clear ho0)))
       go_ret2
       exact ⟨_, by first | rfl | (simp [errW_none, errW_some] <;> rfl) | (simp [*, errW_none, errW_some] <;> rfl), by (with_reducible repeat (first | apply Kd.R_alloc | apply Kd.R_drewN | apply Kd.R_drew)); exact Kd.R_mono HO501.out (fun _ hk => trivial), pxb HB⟩
   ·rw [if_neg c10] at H
    exact absurd H (by simp)
  ·rw [if_neg c7] at H
   have c7b0 : (t474 == 0) = false := beq_eq_false_iff_ne.mpr c7
   have c7b1 : (t474 != 0) = true := bne_iff_ne.mpr c7
   simp only [Option.some.injEq, Prod.mk.injEq] at H
   obtain ⟨rfl, rfl⟩ := H
   go_enter Try.func38, Try.ntmps38
   go_wp2_with (first | ((with_reducible refine gate_callee (f := 31) rfl ?_); refine goesL_ (some 20) rfl rfl Try.func31 (by kernel_rfl) rfl #[.string a0, .slice A1 l1.length c1] rfl (by (try simp only [List.map_toArray, List.map_cons, List.map_nil]); first | done | rfl | (simp only [List.length_drop, List.length_take]; rfl)) ?_; (with_reducible refine (edit_Apply.calls k a0 _ _ l1 t471 t472 _ ?side1 ?side2 A4.out).mono ?_); (case side1 => repeat (first | exact HR1.out | (with_reducible refine Kd.C_alloc ?_ _) | (with_reducible refine Kd.C_drewN ?_ _) | (with_reducible refine Kd.C_drew ?_))); (case side2 => exact HC1.out); rintro e w46 ⟨rfl, hb⟩; refine ⟨_, rfl, ?_⟩; have n0_ := pxs HB hb; clear HB; have HB := n0_; clear n0_; (try clear hb); (try clear hb2); (try clear hk); (try clear hi)) | ((with_reducible refine gate_callee (f := 31) rfl ?_); refine goesL_ (some 29) rfl rfl Try.func31 (by kernel_rfl) rfl #[.string t471, .slice A2 l2.length c2] rfl (by (try simp only [List.map_toArray, List.map_cons, List.map_nil]); first | done | rfl | (simp only [List.length_drop, List.length_take]; rfl)) ?_; (with_reducible refine (edit_Apply.calls k t471 _ _ l2 t473 t474 _ ?side1 ?side2 A6.out).mono ?_); (case side1 => exact pxc HR2 HB); (case side2 => exact HC2.out); rintro e w47 ⟨rfl, hb⟩; refine ⟨_, rfl, ?_⟩; have n0_ := pxs HB hb; clear HB; have HB := n0_; clear n0_; (try clear hb); (try clear hb2); (try clear hk); (try clear hi)))
   go_ret2
   exact ⟨_, by first | rfl | (simp [errW_none, errW_some] <;> rfl) | (simp [*, errW_none, errW_some] <;> rfl), by first | exact Kd.R_nil _ _ _ _ _ | exact Kd.N_nil _ _ _ _ _ | exact Kd.V_nil _ _ _ _ _ | exact Kd.Q_nil _ _ _ _ _ | exact Kd.S_nil _ _ _ _ _, pxb HB⟩
 ·rw [if_neg c5] at H
  have c5b0 : (t472 == 0) = false := beq_eq_false_iff_ne.mpr c5
  have c5b1 : (t472 != 0) = true := bne_iff_ne.mpr c5
  simp only [Option.some.injEq, Prod.mk.injEq] at H
  obtain ⟨rfl, rfl⟩ := H
  go_enter Try.func38, Try.ntmps38
  go_wp2_with (first | ((with_reducible refine gate_callee (f := 31) rfl ?_); refine goesL_ (some 20) rfl rfl Try.func31 (by kernel_rfl) rfl #[.string a0, .slice A1 l1.length c1] rfl (by (try simp only [List.map_toArray, List.map_cons, List.map_nil]); first | done | rfl | (simp only [List.length_drop, List.length_take]; rfl)) ?_; (with_reducible refine (edit_Apply.calls k a0 _ _ l1 t471 t472 _ ?side1 ?side2 A4.out).mono ?_); (case side1 => repeat (first | exact HR1.out | (with_reducible refine Kd.C_alloc ?_ _) | (with_reducible refine Kd.C_drewN ?_ _) | (with_reducible refine Kd.C_drew ?_))); (case side2 => exact HC1.out); rintro e w48 ⟨rfl, hb⟩; refine ⟨_, rfl, ?_⟩; have n0_ := pxs HB hb; clear HB; have HB := n0_; clear n0_; (try clear hb); (try clear hb2); (try clear hk); (try clear hi)))
  go_ret2
  exact ⟨_, by first | rfl | (simp [errW_none, errW_some] <;> rfl) | (simp [*, errW_none, errW_some] <;> rfl), by first | exact Kd.R_nil _ _ _ _ _ | exact Kd.N_nil _ _ _ _ _ | exact Kd.V_nil _ _ _ _ _ | exact Kd.Q_nil _ _ _ _ _ | exact Kd.S_nil _ _ _ _ _, pxb HB⟩

end Go.Proofs.Ytfnemjejfccecaa.X
