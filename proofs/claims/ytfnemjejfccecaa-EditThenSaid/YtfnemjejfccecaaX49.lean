/- What the program's functions answer, as Lean functions, and that each call does just that; no condition. Written by a program (px.py) out of the translation. -/
import Derived.Test.YtfnemjejfccecaaX0
import Derived.Test.YtfnemjejfccecaaX52
namespace Go.Proofs.Ytfnemjejfccecaa.X
open Go.RowKit Go.Proofs.YtfnemjejfccecaaW.PrintWords Go.Proofs.YtfnemjejfccecaaW.PrintLast Go.Proofs.YtfnemjejfccecaaW.PrintMore
attribute [local go_sem] max2_int min2_int max_two min_two max_three min_three max_four min_four   -- for this text's walks alone
set_option linter.unusedVariables false
set_option linter.unusedSimpArgs false

/-! ### edit_between: function 49 -/
def edit_between.l0 : Nat → List (S60) → Int → ByteArray → List (S82) → Int → Int → Option ((List (S60)))
 | 0, _, _, _, _, _, _ => none
 | k + 1, x5, x6, x7, x15, x16, x17 => if x17 < x16 then (if 0 ≤ x17 then (if x17 < (x15.length : Int) then (if ((rd_T82 x15 x17).f1) < 0 then (if x7.size + ((rd_T82 x15 x17).f0).size ≤ 9223372036854775807 then (edit_between.l0 k x5 x6 (x7 ++ ((rd_T82 x15 x17).f0)) x15 x16 (wrap64 (x17 + 1))) else (none)) else (if x6 < ((rd_T82 x15 x17).f1) then (if x5.length < 4398046511104 then (edit_between.l0 k (x5 ++ [(⟨(⟨x6, (rd_T82 x15 x17).f1⟩ : S24), x7⟩ : S60)]) (wrap64 (((rd_T82 x15 x17).f1) + (((rd_T82 x15 x17).f0).size : Int))) (⟨#[]⟩ : ByteArray) x15 x16 (wrap64 (x17 + 1))) else (none)) else (if x7.toList = ([] : List UInt8) then (edit_between.l0 k x5 (wrap64 (((rd_T82 x15 x17).f1) + (((rd_T82 x15 x17).f0).size : Int))) (⟨#[]⟩ : ByteArray) x15 x16 (wrap64 (x17 + 1))) else (if x5.length < 4398046511104 then (edit_between.l0 k (x5 ++ [(⟨(⟨x6, (rd_T82 x15 x17).f1⟩ : S24), x7⟩ : S60)]) (wrap64 (((rd_T82 x15 x17).f1) + (((rd_T82 x15 x17).f0).size : Int))) (⟨#[]⟩ : ByteArray) x15 x16 (wrap64 (x17 + 1))) else (none))))) else (none)) else (none)) else (some x5)
def edit_between.f (k : Nat) (a0 : Int) (l1 : List (S82)) : Option ((List (S60))) := (edit_piece.f l1).bind fun t457 => (if t457.length < 5864062014805 then ((some (t457 ++ [(⟨(⟨#[]⟩ : ByteArray), a0⟩ : S82)] : List (S82))).bind fun y460 => (edit_between.l0 k ([] : List (S60)) 0 (⟨#[]⟩ : ByteArray) y460 (y460.length : Int) 0)) else (none))
theorem edit_between.mono_l : ∀ k, (∀ y0 y1 y2 y3 y4 y5, LeO (edit_between.l0 k y0 y1 y2 y3 y4 y5) (edit_between.l0 (k + 1) y0 y1 y2 y3 y4 y5))
 | 0 => fun _ _ _ _ _ _ r h => by simp [edit_between.l0] at h
 | k + 1 => by
  have ih0 := edit_between.mono_l k
  ·intro y0 y1 y2 y3 y4 y5
   unfold edit_between.l0
   repeat' first
   | (with_reducible exact ih0 _ _ _ _ _ _)
   | (with_reducible exact LeO.refl _)
   | (with_reducible exact LeO.none _)
   | (with_reducible refine LeO.ite ?_ ?_)
   | (with_reducible refine LeO.bind ?_ (fun _ => ?_))
   | exact ih0 _ _ _ _ _ _
   | exact LeO.none _
   | refine LeO.ite ?_ ?_
   | refine LeO.bind ?_ (fun _ => ?_)
theorem edit_between.mono : ∀ a0 a1 k, LeO (edit_between.f k a0 a1) (edit_between.f (k + 1) a0 a1) := by
 intro a0 a1 k
 have ih0 := edit_between.mono_l k
 unfold edit_between.f
 repeat' first
   | (with_reducible exact ih0 _ _ _ _ _ _)
   | (with_reducible exact LeO.refl _)
   | (with_reducible exact LeO.none _)
   | (with_reducible refine LeO.ite ?_ ?_)
   | (with_reducible refine LeO.bind ?_ (fun _ => ?_))
   | exact ih0 _ _ _ _ _ _
   | exact LeO.none _
   | refine LeO.ite ?_ ?_
   | refine LeO.bind ?_ (fun _ => ?_)
set_option maxHeartbeats 8000000 in
set_option maxRecDepth 100000 in
theorem edit_between.calls (k : Nat) (a0 : Int) (A1 : Option Addr) (c1 : Nat) (l1 : List (S82)) (r : List (S60)) (w : World) (hr1 : Kd.C k82 w A1 l1.length l1) (hc1 : l1.length ≤ c1) (h : edit_between.f k a0 l1 = some r) :
  Calls Try.prog 49 #[.int .i64 a0, .slice A1 l1.length c1] w fun e w' => ∃ v0_ : Value, e = .returned (v0_) ∧ Kd.R k60 60 w' w.heap.size (fun _ => True) v0_ r ∧ Below w.heap.size w w' := by
 have hu82 := Try.underlying82
 have hu24 := Try.underlying24
 have hu60 := Try.underlying60
 have HR1 := Aside0.mk hr1
 have HC1 := Aside0.mk hc1
 clear hr1 hc1
 have HB := Aside0.mk (Below.refl w.heap.size w)
 have H : ((edit_piece.f l1).bind fun t457 => (if t457.length < 5864062014805 then ((some (t457 ++ [(⟨(⟨#[]⟩ : ByteArray), a0⟩ : S82)] : List (S82))).bind fun y460 => (edit_between.l0 k ([] : List (S60)) 0 (⟨#[]⟩ : ByteArray) y460 (y460.length : Int) 0)) else (none))) = some r := h
 clear h
 replace H := Option.bind_eq_some_iff.mp H
 obtain ⟨t457, A30, H⟩ := H
 replace H : (if t457.length < 5864062014805 then ((some (t457 ++ [(⟨(⟨#[]⟩ : ByteArray), a0⟩ : S82)] : List (S82))).bind fun y460 => (edit_between.l0 k ([] : List (S60)) 0 (⟨#[]⟩ : ByteArray) y460 (y460.length : Int) 0)) else (none)) = some r := H
 have A3 := Aside0.mk A30
 clear A30
 by_cases c4 : t457.length < 5864062014805
 ·rw [if_pos c4] at H
  have LMc4 := Aside0.mk c4
  clear c4
  obtain ⟨y460, hy460⟩ : ∃ y_ : List (S82), y_ = (t457 ++ [(⟨(⟨#[]⟩ : ByteArray), a0⟩ : S82)]) := ⟨_, rfl⟩
  replace H : (edit_between.l0 k ([] : List (S60)) 0 (⟨#[]⟩ : ByteArray) y460 (y460.length : Int) 0) = some r := by first | (rw [hy460]; with_reducible exact H) | (have H2_ := (Option.bind_some _ _).symm.trans H; rw [hy460]; with_reducible exact H2_) | (have H2_ := (Option.bind_some _ _).symm.trans H; with_reducible exact H2_) | with_reducible exact H | (rw [hy460]; exact H) | exact H
  have Ny460 := Aside0.mk hy460
  clear hy460
  have H' := Aside0.mk H
  clear H
  go_enter Try.func49, Try.ntmps49
  go_wp2_with (first | ((with_reducible refine gate_callee (f := 52) rfl ?_); refine goesL_ (some 11) rfl rfl Try.func52 (by kernel_rfl) rfl #[.slice A1 l1.length c1] rfl (by (try simp only [List.map_toArray, List.map_cons, List.map_nil]); first | done | rfl | (simp only [List.length_drop, List.length_take]; rfl)) ?_; (with_reducible refine (edit_piece.calls _ _ l1 t457 _ ?side1 ?side2 A3.out).mono ?_); (case side1 => repeat (first | exact HR1.out | (with_reducible refine Kd.C_alloc ?_ _) | (with_reducible refine Kd.C_drewN ?_ _) | (with_reducible refine Kd.C_drew ?_))); (case side2 => exact HC1.out); rintro e w5 ⟨v458, rfl, ho0, hb⟩; refine ⟨_, rfl, ?_⟩; have n0_ := Aside0.mk (Kd.R_lower ho0 (below_size (pxb HB))); have n1_ := pxs HB hb; clear HB; have HO459 := n0_; have HB := n1_; clear n0_ n1_; (try clear hb); (try clear hb2); (try clear hk); (try clear hi); (try clear ho0)) | ((with_reducible refine gate_builtin (b := .append) (xs := #[.tmp 11, .tmp 14]) rfl ?_); at_builtin; refine Kd.R_append k82 (w0 := w) w.heap.size rfl (.tmp 11) (.tmp 14) 77 82 (.agg #[(.string ⟨#[]⟩), (.int .i64 0)]) 24 rfl Try.underlying77 info82 rfl (by decide) (by omega) v458 t457 (⟨(⟨#[]⟩ : ByteArray), a0⟩ : S82) [.string (⟨#[]⟩ : ByteArray), .int .i64 a0] (fun _ => True) (fun _ => False) rfl rfl ?aP (fun _ hk => hk.elim) ?aF ?aO ?aB ?aS ?aL ?_; (case aP => exact k82_mkM _ _ _ (⟨(⟨#[]⟩ : ByteArray), a0⟩ : S82)); (case aB => exact (pxb HB)); (case aF => exact (fun _ _ => trivial)); (case aO => exact (pxr HO459)); (case aS => exact (below_size (pxb HB))); (case aL => have := LMc4.out; omega); intro v461 w6 ho hb hg hat; rw [← Ny460.out] at ho; have n0_ := Aside0.mk (hb); have n1_ := Aside0.mk (ho); clear HB; clear HO459; have HB := n0_; have HO462 := n1_; clear n0_ n1_; clear ho hb hg hat; obtain ⟨Ao7, co7, eo7⟩ := Kd.R_slice HO462.out; subst eo7))
  go_loopg [5, 6, 7, 17] k (fun kq v5 v6 v7 v17 w' => ∃ (x5_1 : List (S60)) (x6_1 : Int) (x7_1 : ByteArray) (x17_1 : Int), v6 = .int .i64 x6_1 ∧ v7 = .string x7_1 ∧ v17 = .int .i64 x17_1 ∧ Aside0 (edit_between.l0 kq x5_1 x6_1 x7_1 y460 (y460.length : Int) x17_1 = some r) ∧ Aside0 (kq ≤ k) ∧ Aside0 (Kd.R k60 60 w' w.heap.size (fun _ => True) v5 x5_1) ∧ Aside0 (Kd.R k82 82 w' w.heap.size (fun _ => True) (.slice Ao7 y460.length co7) y460) ∧ Aside0 (Below w.heap.size w w'))
  case atStart => exact ⟨(([] : List (S60))), (0), ((⟨#[]⟩ : ByteArray)), (0), (by first | rfl | (simp; done) | (simp [*]; done)), (by first | rfl | (simp; done) | (simp [*]; done)), (by first | rfl | (simp; done) | (simp [*]; done)), H', ⟨Nat.le_refl _⟩, ⟨by first | exact Kd.R_nil _ _ _ _ _ | exact Kd.N_nil _ _ _ _ _ | exact Kd.V_nil _ _ _ _ _ | exact Kd.Q_nil _ _ _ _ _ | exact Kd.S_nil _ _ _ _ _⟩, ⟨pxr HO462⟩, ⟨pxb HB⟩⟩
  case round =>
   clear H'
   try clear c1
   try clear p2
   try clear c4
   try clear c5
   obtain ⟨x5_1, x6_1, x7_1, x17_1, rfl, rfl, rfl, HA, HK1, HO_5, HO_15, HB⟩ := hrel
   cases gk with
   | zero => exact absurd HA.out (by simp [edit_between.l0])
   | succ k1 =>
    have H := HA.out
    clear HA
    simp only [edit_between.l0] at H
    by_cases c8 : x17_1 < (y460.length : Int)
    ·rw [if_pos c8] at H
     have c8b0 : decide (x17_1 < (y460.length : Int)) = true := decide_eq_true c8
     clear c8
     by_cases c9 : 0 ≤ x17_1
     ·rw [if_pos c9] at H
      have c9b0 : decide (0 ≤ x17_1) = true := decide_eq_true c9
      clear c9
      by_cases c10 : x17_1 < (y460.length : Int)
      ·rw [if_pos c10] at H
       have c10b0 : decide (x17_1 < (y460.length : Int)) = true := decide_eq_true c10
       clear c10
       by_cases c11 : ((rd_T82 y460 x17_1).f1) < 0
       ·rw [if_pos c11] at H
        have c11b0 : decide (((rd_T82 y460 x17_1).f1) < 0) = true := decide_eq_true c11
        clear c11
        by_cases c12 : x7_1.size + ((rd_T82 y460 x17_1).f0).size ≤ 9223372036854775807
        ·rw [if_pos c12] at H
         have c12b0 := eq_true c12
         have c12b1 : decide (x7_1.size + ((rd_T82 y460 x17_1).f0).size ≤ 9223372036854775807) = true := decide_eq_true c12
         try have c12b2 : (9223372036854775807 < x7_1.size + ((rd_T82 y460 x17_1).f0).size) = False := eq_false (Nat.not_lt.2 c12)
         have H' := Aside0.mk H
         clear H
         have p463 : 0 ≤ (x17_1 : Int) := of_decide_eq_true (by first | (with_reducible assumption) | assumption)
         have q463 : x17_1 < (y460.length : Int) := of_decide_eq_true (by first | (with_reducible assumption) | assumption)
         obtain ⟨ad463, e463, hx463_0, hx463_1⟩ := at_T82 (Kd.R_reads' HO_15.out).2.2 x17_1 p463 q463
         cases e463
         replace p463 := eq_true p463
         replace q463 := eq_true q463
         go_wp2_with (first | ((with_reducible refine gate_dst (N := 9) rfl ?_); refine box_event ?hg (N := 9) ?hd (cs := #[.string (⟨#[]⟩ : ByteArray), .int .i64 0]) (t := 82) ?hr ?_; (case hd => rfl); (case hg => rfl); (case hr => first | (go_simp; done) | (go_simp; rfl)); intro gb464 hg w13 hbox hb; have n0_ := Aside0.mk (Kd.R_below (pxr HO_5) hb); have n1_ := Aside0.mk (Kd.R_below (Kd.R_elderB (pxr HO_15) gb464 (Nat.le_of_eq hg.symm)) hb); have n2_ := pxs HB hb; have n3_ := Aside0.mk (hbox); have n4_ := Aside0.mk ((by rw [hg]; exact (below_size (pxb HB)) : w.heap.size ≤ gb464)); have n5_ := Aside0.mk ((by rw [hg]; exact (below_size (pxb HB)) : w.heap.size ≤ gb464)); clear HO_5; clear HO_15; clear HB; have HO_5 := n0_; have HO_15 := n1_; have HB := n2_; have BK464 := n3_; have GW464 := n4_; have GE464 := n5_; clear n0_ n1_ n2_ n3_ n4_ n5_; clear hb hbox hg; have hcz14_0 : w13.cell? ⟨gb464, 0, none⟩ = some (.string (⟨#[]⟩ : ByteArray)) := (blk_cell BK464.out 0).trans rfl; have hcz14_1 : w13.cell? ⟨gb464, 1, none⟩ = some (.int .i64 0) := (blk_cell BK464.out 1).trans rfl; have hfz14_0 := blk_frozen BK464.out 0; have hfz14_1 := blk_frozen BK464.out 1))
         go_roundg k1
         case measure => have := HK1.out; omega
         case rel => exact ⟨(x5_1), (x6_1), (x7_1 ++ ((rd_T82 y460 x17_1).f0)), (wrap64 (x17_1 + 1)), (by first | rfl | (simp; done) | (simp [*]; done)), (by first | rfl | (simp; done) | (simp [*]; done)), (by first | rfl | (simp; done) | (simp [*]; done)), H', ⟨by have := HK1.out; omega⟩, ⟨by (with_reducible repeat (first | apply Kd.R_alloc | apply Kd.R_drewN | apply Kd.R_drew)); exact Kd.R_mono (Kd.R_far (p := ⟨gb464, 1, none⟩) (Kd.R_far (p := ⟨gb464, 0, none⟩) (Kd.R_types HO_5.out BK464.out (by decide)) (fun _ hk => hk.2) (.string ((rd_T82 y460 x17_1).f0))) (fun _ hk => hk.2) (.int .i64 ((rd_T82 y460 x17_1).f1))) (fun _ hk => trivial)⟩, ⟨by (with_reducible repeat (first | apply Kd.R_alloc | apply Kd.R_drewN | apply Kd.R_drew)); exact Kd.R_mono (Kd.R_far (p := ⟨gb464, 1, none⟩) (Kd.R_far (p := ⟨gb464, 0, none⟩) (Kd.R_mono HO_15.out (fun k_ hk => (⟨hk, hk.2⟩ : _ ∧ k_ ≠ gb464))) (fun _ hk => hk.2) (.string ((rd_T82 y460 x17_1).f0))) (fun _ hk => hk.2) (.int .i64 ((rd_T82 y460 x17_1).f1))) (fun _ hk => trivial)⟩, ⟨pxb HB⟩⟩
        ·rw [if_neg c12] at H
         exact absurd H (by simp)
       ·rw [if_neg c11] at H
        have c11b0 : decide (((rd_T82 y460 x17_1).f1) < 0) = false := decide_eq_false c11
        clear c11
        by_cases c15 : x6_1 < ((rd_T82 y460 x17_1).f1)
        ·rw [if_pos c15] at H
         have c15b0 : decide (x6_1 < ((rd_T82 y460 x17_1).f1)) = true := decide_eq_true c15
         clear c15
         by_cases c16 : x5_1.length < 4398046511104
         ·rw [if_pos c16] at H
          have LMc16 := Aside0.mk c16
          clear c16
          obtain ⟨y465, hy465⟩ : ∃ y_ : List (S60), y_ = (x5_1 ++ [(⟨(⟨x6_1, (rd_T82 y460 x17_1).f1⟩ : S24), x7_1⟩ : S60)]) := ⟨_, rfl⟩
          replace H : (edit_between.l0 k1 y465 (wrap64 (((rd_T82 y460 x17_1).f1) + (((rd_T82 y460 x17_1).f0).size : Int))) (⟨#[]⟩ : ByteArray) y460 (y460.length : Int) (wrap64 (x17_1 + 1))) = some r := by first | (rw [hy465]; with_reducible exact H) | (have H2_ := (Option.bind_some _ _).symm.trans H; rw [hy465]; with_reducible exact H2_) | (have H2_ := (Option.bind_some _ _).symm.trans H; with_reducible exact H2_) | with_reducible exact H | (rw [hy465]; exact H) | exact H
          have Ny465 := Aside0.mk hy465
          clear hy465
          have H' := Aside0.mk H
          clear H
          have p463 : 0 ≤ (x17_1 : Int) := of_decide_eq_true (by first | (with_reducible assumption) | assumption)
          have q463 : x17_1 < (y460.length : Int) := of_decide_eq_true (by first | (with_reducible assumption) | assumption)
          obtain ⟨ad463, e463, hx463_0, hx463_1⟩ := at_T82 (Kd.R_reads' HO_15.out).2.2 x17_1 p463 q463
          cases e463
          replace p463 := eq_true p463
          replace q463 := eq_true q463
          go_wp2_with (first | ((with_reducible refine gate_dst (N := 9) rfl ?_); refine box_event ?hg (N := 9) ?hd (cs := #[.string (⟨#[]⟩ : ByteArray), .int .i64 0]) (t := 82) ?hr ?_; (case hd => rfl); (case hg => rfl); (case hr => first | (go_simp; done) | (go_simp; rfl)); intro gb464 hg w17 hbox hb; have n0_ := Aside0.mk (Kd.R_below (pxr HO_5) hb); have n1_ := Aside0.mk (Kd.R_below (Kd.R_elderB (pxr HO_15) gb464 (Nat.le_of_eq hg.symm)) hb); have n2_ := pxs HB hb; have n3_ := Aside0.mk (hbox); have n4_ := Aside0.mk ((by rw [hg]; exact (below_size (pxb HB)) : w.heap.size ≤ gb464)); have n5_ := Aside0.mk ((by rw [hg]; exact (below_size (pxb HB)) : w.heap.size ≤ gb464)); clear HO_5; clear HO_15; clear HB; have HO_5 := n0_; have HO_15 := n1_; have HB := n2_; have BK464 := n3_; have GW464 := n4_; have GE464 := n5_; clear n0_ n1_ n2_ n3_ n4_ n5_; clear hb hbox hg; have hcz18_0 : w17.cell? ⟨gb464, 0, none⟩ = some (.string (⟨#[]⟩ : ByteArray)) := (blk_cell BK464.out 0).trans rfl; have hcz18_1 : w17.cell? ⟨gb464, 1, none⟩ = some (.int .i64 0) := (blk_cell BK464.out 1).trans rfl; have hfz18_0 := blk_frozen BK464.out 0; have hfz18_1 := blk_frozen BK464.out 1) | ((with_reducible refine gate_builtin (b := .append) (xs := #[.tmp 36, .tmp 43]) rfl ?_); at_builtin; refine Kd.R_append k60 (w0 := w) w.heap.size rfl (.tmp 36) (.tmp 43) 50 60 (.agg #[(.int .i64 0), (.int .i64 0), (.string ⟨#[]⟩)]) 32 rfl Try.underlying50 info60 rfl (by decide) (by omega) u5 x5_1 (⟨(⟨x6_1, (rd_T82 y460 x17_1).f1⟩ : S24), x7_1⟩ : S60) [.int .i64 x6_1, .int .i64 ((rd_T82 y460 x17_1).f1), .string x7_1] (fun _ => True) (fun _ => False) rfl (by first | (go_simp; done) | (go_simp; rfl)) ?aP (fun _ hk => hk.elim) ?aF ?aO ?aB ?aS ?aL ?_; (case aP => exact k60_mkM _ _ _ (⟨(⟨x6_1, (rd_T82 y460 x17_1).f1⟩ : S24), x7_1⟩ : S60)); (case aB => exact (pxb HB)); (case aF => exact (fun _ _ => trivial)); (case aO => exact (by (with_reducible repeat (first | apply Kd.R_alloc | apply Kd.R_drewN | apply Kd.R_drew)); exact Kd.R_mono (Kd.R_far (p := ⟨gb464, 1, none⟩) (Kd.R_far (p := ⟨gb464, 0, none⟩) (Kd.R_types HO_5.out BK464.out (by decide)) (fun _ hk => hk.2) (.string ((rd_T82 y460 x17_1).f0))) (fun _ hk => hk.2) (.int .i64 ((rd_T82 y460 x17_1).f1))) (fun _ hk => trivial))); (case aS => exact (below_size (pxb HB))); (case aL => have := LMc16.out; omega); intro v466 w19 ho hb hg hat; rw [← Ny465.out] at ho; have n0_ := Aside0.mk (Kd.R_over' (by (with_reducible repeat (first | apply Kd.R_alloc | apply Kd.R_drewN | apply Kd.R_drew)); exact (Kd.R_mono (Kd.R_far (p := ⟨gb464, 1, none⟩) (Kd.R_far (p := ⟨gb464, 0, none⟩) (Kd.R_mono HO_15.out (fun k_ hk => (⟨hk, hk.2⟩ : _ ∧ k_ ≠ gb464))) (fun _ hk => hk.2) (.string ((rd_T82 y460 x17_1).f0))) (fun _ hk => hk.2) (.int .i64 ((rd_T82 y460 x17_1).f1))) (fun _ h_ => h_.1))) (Kd.R_typed (by (with_reducible repeat (first | apply Kd.R_alloc | apply Kd.R_drewN | apply Kd.R_drew)); exact (Kd.R_mono (Kd.R_far (p := ⟨gb464, 1, none⟩) (Kd.R_far (p := ⟨gb464, 0, none⟩) (Kd.R_types HO_5.out BK464.out (by decide)) (fun _ hk => hk.2) (.string ((rd_T82 y460 x17_1).f0))) (fun _ hk => hk.2) (.int .i64 ((rd_T82 y460 x17_1).f1))) (fun _ h_ => h_.1)))) (by decide) hg); have n1_ := Aside0.mk (blk_grown (g := gb464) (o := .cells #[.string ((rd_T82 y460 x17_1).f0), .int .i64 ((rd_T82 y460 x17_1).f1)] 82 (0, 0)) (by (with_reducible repeat (first | refine blk_drewN ?_ _ | refine blk_drew ?_ | refine blk_alloc ?_ _)); refine blk_put (cs := #[.string ((rd_T82 y460 x17_1).f0), .int .i64 0]) ?_ 1 _ rfl; (with_reducible repeat (first | refine blk_drewN ?_ _ | refine blk_drew ?_ | refine blk_alloc ?_ _)); refine blk_put (cs := #[.string (⟨#[]⟩ : ByteArray), .int .i64 0]) ?_ 0 _ rfl; (with_reducible repeat (first | refine blk_drewN ?_ _ | refine blk_drew ?_ | refine blk_alloc ?_ _)); exact BK464.out) hg (Kd.R_ne HO_5.out BK464.out (by decide))); have n2_ := Aside0.mk (hb); have n3_ := Aside0.mk (ho); clear HO_15; clear BK464; clear HB; clear HO_5; have HO_15 := n0_; have BK464 := n1_; have HB := n2_; have HO467 := n3_; clear n0_ n1_ n2_ n3_; clear ho hb hg hat; have hcz20_0 : w19.cell? ⟨gb464, 0, none⟩ = some (.string ((rd_T82 y460 x17_1).f0)) := (blk_cell BK464.out 0).trans rfl; have hcz20_1 : w19.cell? ⟨gb464, 1, none⟩ = some (.int .i64 ((rd_T82 y460 x17_1).f1)) := (blk_cell BK464.out 1).trans rfl; have hfz20_0 := blk_frozen BK464.out 0; have hfz20_1 := blk_frozen BK464.out 1))
          go_roundg k1
          case measure => have := HK1.out; omega
          case rel => exact ⟨(y465), (wrap64 (((rd_T82 y460 x17_1).f1) + (((rd_T82 y460 x17_1).f0).size : Int))), ((⟨#[]⟩ : ByteArray)), (wrap64 (x17_1 + 1)), (by first | rfl | (simp; done) | (simp [*]; done)), (by first | rfl | (simp; done) | (simp [*]; done)), (by first | rfl | (simp; done) | (simp [*]; done)), H', ⟨by have := HK1.out; omega⟩, ⟨pxr HO467⟩, ⟨by (with_reducible repeat (first | apply Kd.R_alloc | apply Kd.R_drewN | apply Kd.R_drew)); exact Kd.R_mono HO_15.out (fun _ hk => trivial)⟩, ⟨pxb HB⟩⟩
         ·rw [if_neg c16] at H
          exact absurd H (by simp)
        ·rw [if_neg c15] at H
         have c15b0 : decide (x6_1 < ((rd_T82 y460 x17_1).f1)) = false := decide_eq_false c15
         clear c15
         by_cases c21 : x7_1.toList = ([] : List UInt8)
         ·rw [if_pos c21] at H
          have c21b0 : (x7_1.toList == ([] : List UInt8)) = true := beq_iff_eq.mpr c21
          have c21b1 : (x7_1.toList != ([] : List UInt8)) = false := bne_eq_false_iff_eq.mpr c21
          clear c21
          have H' := Aside0.mk H
          clear H
          have p463 : 0 ≤ (x17_1 : Int) := of_decide_eq_true (by first | (with_reducible assumption) | assumption)
          have q463 : x17_1 < (y460.length : Int) := of_decide_eq_true (by first | (with_reducible assumption) | assumption)
          obtain ⟨ad463, e463, hx463_0, hx463_1⟩ := at_T82 (Kd.R_reads' HO_15.out).2.2 x17_1 p463 q463
          cases e463
          replace p463 := eq_true p463
          replace q463 := eq_true q463
          go_wp2_with (first | ((with_reducible refine gate_dst (N := 9) rfl ?_); refine box_event ?hg (N := 9) ?hd (cs := #[.string (⟨#[]⟩ : ByteArray), .int .i64 0]) (t := 82) ?hr ?_; (case hd => rfl); (case hg => rfl); (case hr => first | (go_simp; done) | (go_simp; rfl)); intro gb464 hg w22 hbox hb; have n0_ := Aside0.mk (Kd.R_below (pxr HO_5) hb); have n1_ := Aside0.mk (Kd.R_below (Kd.R_elderB (pxr HO_15) gb464 (Nat.le_of_eq hg.symm)) hb); have n2_ := pxs HB hb; have n3_ := Aside0.mk (hbox); have n4_ := Aside0.mk ((by rw [hg]; exact (below_size (pxb HB)) : w.heap.size ≤ gb464)); have n5_ := Aside0.mk ((by rw [hg]; exact (below_size (pxb HB)) : w.heap.size ≤ gb464)); clear HO_5; clear HO_15; clear HB; have HO_5 := n0_; have HO_15 := n1_; have HB := n2_; have BK464 := n3_; have GW464 := n4_; have GE464 := n5_; clear n0_ n1_ n2_ n3_ n4_ n5_; clear hb hbox hg; have hcz23_0 : w22.cell? ⟨gb464, 0, none⟩ = some (.string (⟨#[]⟩ : ByteArray)) := (blk_cell BK464.out 0).trans rfl; have hcz23_1 : w22.cell? ⟨gb464, 1, none⟩ = some (.int .i64 0) := (blk_cell BK464.out 1).trans rfl; have hfz23_0 := blk_frozen BK464.out 0; have hfz23_1 := blk_frozen BK464.out 1))
          go_roundg k1
          case measure => have := HK1.out; omega
          case rel => exact ⟨(x5_1), (wrap64 (((rd_T82 y460 x17_1).f1) + (((rd_T82 y460 x17_1).f0).size : Int))), ((⟨#[]⟩ : ByteArray)), (wrap64 (x17_1 + 1)), (by first | rfl | (simp; done) | (simp [*]; done)), (by first | rfl | (simp; done) | (simp [*]; done)), (by first | rfl | (simp; done) | (simp [*]; done)), H', ⟨by have := HK1.out; omega⟩, ⟨by (with_reducible repeat (first | apply Kd.R_alloc | apply Kd.R_drewN | apply Kd.R_drew)); exact Kd.R_mono (Kd.R_far (p := ⟨gb464, 1, none⟩) (Kd.R_far (p := ⟨gb464, 0, none⟩) (Kd.R_types HO_5.out BK464.out (by decide)) (fun _ hk => hk.2) (.string ((rd_T82 y460 x17_1).f0))) (fun _ hk => hk.2) (.int .i64 ((rd_T82 y460 x17_1).f1))) (fun _ hk => trivial)⟩, ⟨by (with_reducible repeat (first | apply Kd.R_alloc | apply Kd.R_drewN | apply Kd.R_drew)); exact Kd.R_mono (Kd.R_far (p := ⟨gb464, 1, none⟩) (Kd.R_far (p := ⟨gb464, 0, none⟩) (Kd.R_mono HO_15.out (fun k_ hk => (⟨hk, hk.2⟩ : _ ∧ k_ ≠ gb464))) (fun _ hk => hk.2) (.string ((rd_T82 y460 x17_1).f0))) (fun _ hk => hk.2) (.int .i64 ((rd_T82 y460 x17_1).f1))) (fun _ hk => trivial)⟩, ⟨pxb HB⟩⟩
         ·rw [if_neg c21] at H
          have c21b0 : (x7_1.toList == ([] : List UInt8)) = false := beq_eq_false_iff_ne.mpr c21
          have c21b1 : (x7_1.toList != ([] : List UInt8)) = true := bne_iff_ne.mpr c21
          by_cases c24 : x5_1.length < 4398046511104
          ·rw [if_pos c24] at H
           have LMc24 := Aside0.mk c24
           clear c24
           obtain ⟨y468, hy468⟩ : ∃ y_ : List (S60), y_ = (x5_1 ++ [(⟨(⟨x6_1, (rd_T82 y460 x17_1).f1⟩ : S24), x7_1⟩ : S60)]) := ⟨_, rfl⟩
           replace H : (edit_between.l0 k1 y468 (wrap64 (((rd_T82 y460 x17_1).f1) + (((rd_T82 y460 x17_1).f0).size : Int))) (⟨#[]⟩ : ByteArray) y460 (y460.length : Int) (wrap64 (x17_1 + 1))) = some r := by first | (rw [hy468]; with_reducible exact H) | (have H2_ := (Option.bind_some _ _).symm.trans H; rw [hy468]; with_reducible exact H2_) | (have H2_ := (Option.bind_some _ _).symm.trans H; with_reducible exact H2_) | with_reducible exact H | (rw [hy468]; exact H) | exact H
           have Ny468 := Aside0.mk hy468
           clear hy468
           have H' := Aside0.mk H
           clear H
           have p463 : 0 ≤ (x17_1 : Int) := of_decide_eq_true (by first | (with_reducible assumption) | assumption)
           have q463 : x17_1 < (y460.length : Int) := of_decide_eq_true (by first | (with_reducible assumption) | assumption)
           obtain ⟨ad463, e463, hx463_0, hx463_1⟩ := at_T82 (Kd.R_reads' HO_15.out).2.2 x17_1 p463 q463
           cases e463
           replace p463 := eq_true p463
           replace q463 := eq_true q463
           go_wp2_with (first | ((with_reducible refine gate_dst (N := 9) rfl ?_); refine box_event ?hg (N := 9) ?hd (cs := #[.string (⟨#[]⟩ : ByteArray), .int .i64 0]) (t := 82) ?hr ?_; (case hd => rfl); (case hg => rfl); (case hr => first | (go_simp; done) | (go_simp; rfl)); intro gb464 hg w25 hbox hb; have n0_ := Aside0.mk (Kd.R_below (pxr HO_5) hb); have n1_ := Aside0.mk (Kd.R_below (Kd.R_elderB (pxr HO_15) gb464 (Nat.le_of_eq hg.symm)) hb); have n2_ := pxs HB hb; have n3_ := Aside0.mk (hbox); have n4_ := Aside0.mk ((by rw [hg]; exact (below_size (pxb HB)) : w.heap.size ≤ gb464)); have n5_ := Aside0.mk ((by rw [hg]; exact (below_size (pxb HB)) : w.heap.size ≤ gb464)); clear HO_5; clear HO_15; clear HB; have HO_5 := n0_; have HO_15 := n1_; have HB := n2_; have BK464 := n3_; have GW464 := n4_; have GE464 := n5_; clear n0_ n1_ n2_ n3_ n4_ n5_; clear hb hbox hg; have hcz26_0 : w25.cell? ⟨gb464, 0, none⟩ = some (.string (⟨#[]⟩ : ByteArray)) := (blk_cell BK464.out 0).trans rfl; have hcz26_1 : w25.cell? ⟨gb464, 1, none⟩ = some (.int .i64 0) := (blk_cell BK464.out 1).trans rfl; have hfz26_0 := blk_frozen BK464.out 0; have hfz26_1 := blk_frozen BK464.out 1) | ((with_reducible refine gate_builtin (b := .append) (xs := #[.tmp 36, .tmp 43]) rfl ?_); at_builtin; refine Kd.R_append k60 (w0 := w) w.heap.size rfl (.tmp 36) (.tmp 43) 50 60 (.agg #[(.int .i64 0), (.int .i64 0), (.string ⟨#[]⟩)]) 32 rfl Try.underlying50 info60 rfl (by decide) (by omega) u5 x5_1 (⟨(⟨x6_1, (rd_T82 y460 x17_1).f1⟩ : S24), x7_1⟩ : S60) [.int .i64 x6_1, .int .i64 ((rd_T82 y460 x17_1).f1), .string x7_1] (fun _ => True) (fun _ => False) rfl (by first | (go_simp; done) | (go_simp; rfl)) ?aP (fun _ hk => hk.elim) ?aF ?aO ?aB ?aS ?aL ?_; (case aP => exact k60_mkM _ _ _ (⟨(⟨x6_1, (rd_T82 y460 x17_1).f1⟩ : S24), x7_1⟩ : S60)); (case aB => exact (pxb HB)); (case aF => exact (fun _ _ => trivial)); (case aO => exact (by (with_reducible repeat (first | apply Kd.R_alloc | apply Kd.R_drewN | apply Kd.R_drew)); exact Kd.R_mono (Kd.R_far (p := ⟨gb464, 1, none⟩) (Kd.R_far (p := ⟨gb464, 0, none⟩) (Kd.R_types HO_5.out BK464.out (by decide)) (fun _ hk => hk.2) (.string ((rd_T82 y460 x17_1).f0))) (fun _ hk => hk.2) (.int .i64 ((rd_T82 y460 x17_1).f1))) (fun _ hk => trivial))); (case aS => exact (below_size (pxb HB))); (case aL => have := LMc24.out; omega); intro v469 w27 ho hb hg hat; rw [← Ny468.out] at ho; have n0_ := Aside0.mk (Kd.R_over' (by (with_reducible repeat (first | apply Kd.R_alloc | apply Kd.R_drewN | apply Kd.R_drew)); exact (Kd.R_mono (Kd.R_far (p := ⟨gb464, 1, none⟩) (Kd.R_far (p := ⟨gb464, 0, none⟩) (Kd.R_mono HO_15.out (fun k_ hk => (⟨hk, hk.2⟩ : _ ∧ k_ ≠ gb464))) (fun _ hk => hk.2) (.string ((rd_T82 y460 x17_1).f0))) (fun _ hk => hk.2) (.int .i64 ((rd_T82 y460 x17_1).f1))) (fun _ h_ => h_.1))) (Kd.R_typed (by (with_reducible repeat (first | apply Kd.R_alloc | apply Kd.R_drewN | apply Kd.R_drew)); exact (Kd.R_mono (Kd.R_far (p := ⟨gb464, 1, none⟩) (Kd.R_far (p := ⟨gb464, 0, none⟩) (Kd.R_types HO_5.out BK464.out (by decide)) (fun _ hk => hk.2) (.string ((rd_T82 y460 x17_1).f0))) (fun _ hk => hk.2) (.int .i64 ((rd_T82 y460 x17_1).f1))) (fun _ h_ => h_.1)))) (by decide) hg); have n1_ := Aside0.mk (blk_grown (g := gb464) (o := .cells #[.string ((rd_T82 y460 x17_1).f0), .int .i64 ((rd_T82 y460 x17_1).f1)] 82 (0, 0)) (by (with_reducible repeat (first | refine blk_drewN ?_ _ | refine blk_drew ?_ | refine blk_alloc ?_ _)); refine blk_put (cs := #[.string ((rd_T82 y460 x17_1).f0), .int .i64 0]) ?_ 1 _ rfl; (with_reducible repeat (first | refine blk_drewN ?_ _ | refine blk_drew ?_ | refine blk_alloc ?_ _)); refine blk_put (cs := #[.string (⟨#[]⟩ : ByteArray), .int .i64 0]) ?_ 0 _ rfl; (with_reducible repeat (first | refine blk_drewN ?_ _ | refine blk_drew ?_ | refine blk_alloc ?_ _)); exact BK464.out) hg (Kd.R_ne HO_5.out BK464.out (by decide))); have n2_ := Aside0.mk (hb); have n3_ := Aside0.mk (ho); clear HO_15; clear BK464; clear HB; clear HO_5; have HO_15 := n0_; have BK464 := n1_; have HB := n2_; have HO470 := n3_; clear n0_ n1_ n2_ n3_; clear ho hb hg hat; have hcz28_0 : w27.cell? ⟨gb464, 0, none⟩ = some (.string ((rd_T82 y460 x17_1).f0)) := (blk_cell BK464.out 0).trans rfl; have hcz28_1 : w27.cell? ⟨gb464, 1, none⟩ = some (.int .i64 ((rd_T82 y460 x17_1).f1)) := (blk_cell BK464.out 1).trans rfl; have hfz28_0 := blk_frozen BK464.out 0; have hfz28_1 := blk_frozen BK464.out 1))
           go_roundg k1
           case measure => have := HK1.out; omega
           case rel => exact ⟨(y468), (wrap64 (((rd_T82 y460 x17_1).f1) + (((rd_T82 y460 x17_1).f0).size : Int))), ((⟨#[]⟩ : ByteArray)), (wrap64 (x17_1 + 1)), (by first | rfl | (simp; done) | (simp [*]; done)), (by first | rfl | (simp; done) | (simp [*]; done)), (by first | rfl | (simp; done) | (simp [*]; done)), H', ⟨by have := HK1.out; omega⟩, ⟨pxr HO470⟩, ⟨by (with_reducible repeat (first | apply Kd.R_alloc | apply Kd.R_drewN | apply Kd.R_drew)); exact Kd.R_mono HO_15.out (fun _ hk => trivial)⟩, ⟨pxb HB⟩⟩
          ·rw [if_neg c24] at H
           exact absurd H (by simp)
      ·rw [if_neg c10] at H
       exact absurd H (by simp)
     ·rw [if_neg c9] at H
      exact absurd H (by simp)
    ·rw [if_neg c8] at H
     have c8b0 : decide (x17_1 < (y460.length : Int)) = false := decide_eq_false c8
     clear c8
     obtain rfl := Option.some.inj H
     go_wp2
     go_ret
     exact ⟨_, by first | rfl | (simp [errW_none, errW_some] <;> rfl) | (simp [*, errW_none, errW_some] <;> rfl), pxr HO_5, pxb HB⟩
 ·rw [if_neg c4] at H
  exact absurd H (by simp)

end Go.Proofs.Ytfnemjejfccecaa.X
