/- What the program's functions answer, as Lean functions, and that each call does just that; no condition. Written by a program (px.py) out of the translation. -/
import Derived.Test.YtoljmjhmieaggaaM2
import Derived.Test.YtoljmjhmieaggaaX45
import Derived.Test.YtoljmjhmieaggaaShort2
namespace Go.Proofs.Ytoljmjhmieaggaa.X
open Go.RowKit Go.Proofs.YtoljmjhmieaggaaW.PrintWords Go.Proofs.YtoljmjhmieaggaaW.PrintLast Go.Proofs.YtoljmjhmieaggaaW.PrintMore
attribute [local go_sem] max2_int min2_int max_two min_two max_three min_three max_four min_four   -- for this text's walks alone
set_option linter.unusedVariables false
set_option linter.unusedSimpArgs false

/-! ### edit_between: function 36 -/
def edit_between.l0 : Nat → List (S41) → Int → ByteArray → List (S73) → Int → Int → Option ((List (S41)))
 | 0, _, _, _, _, _, _ => none
 | k + 1, x5, x6, x7, x15, x16, x17 => if x17 < x16 then (if 0 ≤ x17 then (if x17 < (x15.length : Int) then (if ((rd_T73 x15 x17).f1) < 0 then (if x7.size + ((rd_T73 x15 x17).f0).size ≤ 9223372036854775807 then (edit_between.l0 k x5 x6 (x7 ++ ((rd_T73 x15 x17).f0)) x15 x16 (wrap64 (x17 + 1))) else (none)) else (if x6 < ((rd_T73 x15 x17).f1) then (if x5.length < 4398046511104 then (edit_between.l0 k (x5 ++ [(⟨(⟨x6, (rd_T73 x15 x17).f1⟩ : S39), x7⟩ : S41)]) (wrap64 (((rd_T73 x15 x17).f1) + (((rd_T73 x15 x17).f0).size : Int))) (⟨#[]⟩ : ByteArray) x15 x16 (wrap64 (x17 + 1))) else (none)) else (if x7.toList = ([] : List UInt8) then (edit_between.l0 k x5 (wrap64 (((rd_T73 x15 x17).f1) + (((rd_T73 x15 x17).f0).size : Int))) (⟨#[]⟩ : ByteArray) x15 x16 (wrap64 (x17 + 1))) else (if x5.length < 4398046511104 then (edit_between.l0 k (x5 ++ [(⟨(⟨x6, (rd_T73 x15 x17).f1⟩ : S39), x7⟩ : S41)]) (wrap64 (((rd_T73 x15 x17).f1) + (((rd_T73 x15 x17).f0).size : Int))) (⟨#[]⟩ : ByteArray) x15 x16 (wrap64 (x17 + 1))) else (none))))) else (none)) else (none)) else (some x5)
def edit_between.f (k : Nat) (a0 : Int) (l1 : List (S73)) : Option ((List (S41))) := (edit_piece.f l1).bind fun t453 => (if t453.length < 5864062014805 then ((some (t453 ++ [(⟨(⟨#[]⟩ : ByteArray), a0⟩ : S73)] : List (S73))).bind fun y456 => (edit_between.l0 k ([] : List (S41)) 0 (⟨#[]⟩ : ByteArray) y456 (y456.length : Int) 0)) else (none))
theorem edit_between.mono_l : ∀ k, (∀ y0 y1 y2 y3 y4 y5, LeO (edit_between.l0 k y0 y1 y2 y3 y4 y5) (edit_between.l0 (k + 1) y0 y1 y2 y3 y4 y5))
 | 0 => fun _ _ _ _ _ _ r h => by simp [edit_between.l0] at h
 | k + 1 => by
  have ih0 := edit_between.mono_l k
  ·intro y0 y1 y2 y3 y4 y5
   unfold edit_between.l0
   repeat' first
   | (with_reducible exact ih0 _ _ _ _ _ _)
   | (with_reducible exact LeO.refl _)
   | (with_reducible exact LeO.none _)
   | (with_reducible refine LeO.ite ?_ ?_)
   | (with_reducible refine LeO.bind ?_ (fun _ => ?_))
   | exact ih0 _ _ _ _ _ _
   | exact LeO.none _
   | refine LeO.ite ?_ ?_
   | refine LeO.bind ?_ (fun _ => ?_)
theorem edit_between.mono : ∀ a0 a1 k, LeO (edit_between.f k a0 a1) (edit_between.f (k + 1) a0 a1) := by
 intro a0 a1 k
 have ih0 := edit_between.mono_l k
 unfold edit_between.f
 repeat' first
   | (with_reducible exact ih0 _ _ _ _ _ _)
   | (with_reducible exact LeO.refl _)
   | (with_reducible exact LeO.none _)
   | (with_reducible refine LeO.ite ?_ ?_)
   | (with_reducible refine LeO.bind ?_ (fun _ => ?_))
   | exact ih0 _ _ _ _ _ _
   | exact LeO.none _
   | refine LeO.ite ?_ ?_
   | refine LeO.bind ?_ (fun _ => ?_)
set_option maxHeartbeats 8000000 in
set_option maxRecDepth 100000 in
theorem edit_between.calls (k : Nat) (a0 : Int) (A1 : Option Addr) (c1 : Nat) (l1 : List (S73)) (r : List (S41)) (w : World) (hr1 : Kd.C k73 w A1 l1.length l1) (hc1 : l1.length ≤ c1) (h : edit_between.f k a0 l1 = some r) :
  Calls Try.prog 36 #[.int .i64 a0, .slice A1 l1.length c1] w fun e w' => ∃ v0_ : Value, e = .returned (v0_) ∧ Kd.R k41 41 w' w.heap.size (fun _ => True) v0_ r ∧ Below w.heap.size w w' := by
 have hu73 := Try.underlying73
 have hu39 := Try.underlying39
 have hu41 := Try.underlying41
 have HR1 := Aside0.mk hr1
 have HC1 := Aside0.mk hc1
 clear hr1 hc1
 have HB := Aside0.mk (Below.refl w.heap.size w)
 have H : ((edit_piece.f l1).bind fun t453 => (if t453.length < 5864062014805 then ((some (t453 ++ [(⟨(⟨#[]⟩ : ByteArray), a0⟩ : S73)] : List (S73))).bind fun y456 => (edit_between.l0 k ([] : List (S41)) 0 (⟨#[]⟩ : ByteArray) y456 (y456.length : Int) 0)) else (none))) = some r := h
 clear h
 replace H := Option.bind_eq_some_iff.mp H
 obtain ⟨t453, A30, H⟩ := H
 replace H : (if t453.length < 5864062014805 then ((some (t453 ++ [(⟨(⟨#[]⟩ : ByteArray), a0⟩ : S73)] : List (S73))).bind fun y456 => (edit_between.l0 k ([] : List (S41)) 0 (⟨#[]⟩ : ByteArray) y456 (y456.length : Int) 0)) else (none)) = some r := H
 have A3 := Aside0.mk A30
 clear A30
 by_cases c4 : t453.length < 5864062014805
 ·rw [if_pos c4] at H
  have LMc4 := Aside0.mk c4
  clear c4
  obtain ⟨y456, hy456⟩ : ∃ y_ : List (S73), y_ = (t453 ++ [(⟨(⟨#[]⟩ : ByteArray), a0⟩ : S73)]) := ⟨_, rfl⟩
  replace H : (edit_between.l0 k ([] : List (S41)) 0 (⟨#[]⟩ : ByteArray) y456 (y456.length : Int) 0) = some r := by first | (rw [hy456]; with_reducible exact H) | (have H2_ := (Option.bind_some _ _).symm.trans H; rw [hy456]; with_reducible exact H2_) | (have H2_ := (Option.bind_some _ _).symm.trans H; with_reducible exact H2_) | with_reducible exact H | (rw [hy456]; exact H) | exact H
  have Ny456 := Aside0.mk hy456
  clear hy456
  have H' := Aside0.mk H
  clear H
  go_enter Try.func36, Try.ntmps36
  go_wp2_with (first | ((with_reducible refine gate_callee (f := 45) rfl ?_); refine goesL_ (some 11) rfl rfl Try.func45 (by kernel_rfl) rfl #[.slice A1 l1.length c1] rfl (by (try simp only [List.map_toArray, List.map_cons, List.map_nil]); first | done | rfl | (simp only [List.length_drop, List.length_take]; rfl)) ?_; (with_reducible refine (edit_piece.calls _ _ l1 t453 _ ?side1 ?side2 A3.out).mono ?_); (case side1 => repeat (first | exact HR1.out | (with_reducible refine Kd.C_alloc ?_ _) | (with_reducible refine Kd.C_drewN ?_ _) | (with_reducible refine Kd.C_drew ?_))); (case side2 => exact HC1.out); rintro e w5 ⟨v454, rfl, ho0, hb⟩; refine ⟨_, rfl, ?_⟩; have HO455 := Aside0.mk (Kd.R_lower ho0 (below_size (pxb HB))); replace HB := pxs HB hb; (try clear hb); (try clear hb2); (try clear hk); (try clear hi); (try clear ho0)) | ((with_reducible refine gate_builtin (b := .append) (xs := #[.tmp 11, .tmp 14]) rfl ?_); at_builtin; refine Kd.R_append k73 (w0 := w) w.heap.size rfl (.tmp 11) (.tmp 14) 68 73 (.agg #[(.string ⟨#[]⟩), (.int .i64 0)]) 24 rfl Try.underlying68 info73 rfl (by decide) (by omega) v454 t453 (⟨(⟨#[]⟩ : ByteArray), a0⟩ : S73) [.string (⟨#[]⟩ : ByteArray), .int .i64 a0] (fun _ => True) (fun _ => False) rfl rfl ?aP (fun _ hk => hk.elim) ?aF ?aO ?aB ?aS ?aL ?_; (case aP => exact k73_mkM _ _ _ (⟨(⟨#[]⟩ : ByteArray), a0⟩ : S73)); (case aB => exact (pxb HB)); (case aF => exact (fun _ _ => trivial)); (case aO => exact (pxr HO455)); (case aS => exact (below_size (pxb HB))); (case aL => have := LMc4.out; omega); intro v457 w6 ho hb hg hat; rw [← Ny456.out] at ho; have n0_ := Aside0.mk (hb); have n1_ := Aside0.mk (ho); clear HB; clear HO455; have HB := n0_; have HO458 := n1_; clear n0_ n1_; clear ho hb hg hat; obtain ⟨Ao7, co7, eo7⟩ := Kd.R_slice HO458.out; subst eo7))
  go_loopg [5, 6, 7, 17] k (fun kq v5 v6 v7 v17 w' => ∃ (x5_1 : List (S41)) (x6_1 : Int) (x7_1 : ByteArray) (x17_1 : Int), v6 = .int .i64 x6_1 ∧ v7 = .string x7_1 ∧ v17 = .int .i64 x17_1 ∧ Aside0 (edit_between.l0 kq x5_1 x6_1 x7_1 y456 (y456.length : Int) x17_1 = some r) ∧ Aside0 (kq ≤ k) ∧ Aside0 (Kd.R k41 41 w' w.heap.size (fun _ => True) v5 x5_1) ∧ Aside0 (Kd.R k73 73 w' w.heap.size (fun _ => True) (.slice Ao7 y456.length co7) y456) ∧ Aside0 (Below w.heap.size w w'))
  case atStart => exact ⟨(([] : List (S41))), (0), ((⟨#[]⟩ : ByteArray)), (0), (by first | rfl | (simp; done) | (simp [*]; done)), (by first | rfl | (simp; done) | (simp [*]; done)), (by first | rfl | (simp; done) | (simp [*]; done)), H', ⟨Nat.le_refl _⟩, ⟨by first | exact Kd.R_nil _ _ _ _ _ | exact Kd.N_nil _ _ _ _ _ | exact Kd.V_nil _ _ _ _ _ | exact Kd.Q_nil _ _ _ _ _ | exact Kd.S_nil _ _ _ _ _⟩, ⟨pxr HO458⟩, ⟨pxb HB⟩⟩
  case round =>
   clear H'
   (try clear c1); (try clear p2); (try clear c3); (try clear c4)
   obtain ⟨x5_1, x6_1, x7_1, x17_1, rfl, rfl, rfl, HA, HK1, HO_5, HO_15, HB⟩ := hrel
   cases gk with
   | zero => exact absurd HA.out (by simp [edit_between.l0])
   | succ k1 =>
    have H := HA.out
    clear HA
    simp only [edit_between.l0] at H
    by_cases c8 : x17_1 < (y456.length : Int)
    ·rw [if_pos c8] at H
     have c8b0 : decide (x17_1 < (y456.length : Int)) = true := decide_eq_true c8
     clear c8
     by_cases c9 : 0 ≤ x17_1
     ·rw [if_pos c9] at H
      have c9b0 : decide (0 ≤ x17_1) = true := decide_eq_true c9
      clear c9
      by_cases c10 : x17_1 < (y456.length : Int)
      ·rw [if_pos c10] at H
       have c10b0 : decide (x17_1 < (y456.length : Int)) = true := decide_eq_true c10
       clear c10
       by_cases c11 : ((rd_T73 y456 x17_1).f1) < 0
       ·rw [if_pos c11] at H
        have c11b0 : decide (((rd_T73 y456 x17_1).f1) < 0) = true := decide_eq_true c11
        clear c11
        by_cases c12 : x7_1.size + ((rd_T73 y456 x17_1).f0).size ≤ 9223372036854775807
        ·rw [if_pos c12] at H
         have c12b0 := eq_true c12
         have c12b1 : decide (x7_1.size + ((rd_T73 y456 x17_1).f0).size ≤ 9223372036854775807) = true := decide_eq_true c12
         try have c12b2 : (9223372036854775807 < x7_1.size + ((rd_T73 y456 x17_1).f0).size) = False := eq_false (Nat.not_lt.2 c12)
         have H' := Aside0.mk H
         clear H
         have p459 : 0 ≤ (x17_1 : Int) := pxd
         have q459 : x17_1 < (y456.length : Int) := pxd
         obtain ⟨ad459, e459, hx459_0, hx459_1⟩ := at_T73 (Kd.R_reads' HO_15.out).2.2 x17_1 p459 q459
         cases e459
         replace p459 := eq_true p459
         replace q459 := eq_true q459
         go_wp2_with (first | ((with_reducible refine gate_dst (N := 9) rfl ?_); refine box_event ?hg (N := 9) ?hd (cs := #[.string (⟨#[]⟩ : ByteArray), .int .i64 0]) (t := 73) ?hr ?_; (case hd => rfl); (case hg => rfl); (case hr => first | (go_simp; done) | (go_simp; rfl)); intro gb460 hg w13 hbox hb; have BK460 := Aside0.mk (hbox); have GW460 := pxw HB hg; have GE460 := pxw HB hg; replace HO_5 := Aside0.mk (Kd.R_below (pxr HO_5) hb); replace HO_15 := Aside0.mk (Kd.R_below (Kd.R_elderB (pxr HO_15) gb460 (Nat.le_of_eq hg.symm)) hb); replace HB := pxs HB hb; clear hb hbox hg; obtain ⟨hcz14_0, hcz14_1, hfz14_0, hfz14_1⟩ := pxf2 BK460))
         go_roundg k1
         case measure => have := HK1.out; omega
         case rel => exact ⟨(x5_1), (x6_1), (x7_1 ++ ((rd_T73 y456 x17_1).f0)), (wrap64 (x17_1 + 1)), (by first | rfl | (simp; done) | (simp [*]; done)), (by first | rfl | (simp; done) | (simp [*]; done)), (by first | rfl | (simp; done) | (simp [*]; done)), H', ⟨by have := HK1.out; omega⟩, ⟨by (with_reducible repeat (first | apply Kd.R_alloc | apply Kd.R_drewN | apply Kd.R_drew)); exact Kd.R_mono (Kd.R_far (p := ⟨gb460, 1, none⟩) (Kd.R_far (p := ⟨gb460, 0, none⟩) (Kd.R_types HO_5.out BK460.out (by decide)) (fun _ hk => hk.2) (.string ((rd_T73 y456 x17_1).f0))) (fun _ hk => hk.2) (.int .i64 ((rd_T73 y456 x17_1).f1))) (fun _ hk => trivial)⟩, ⟨by (with_reducible repeat (first | apply Kd.R_alloc | apply Kd.R_drewN | apply Kd.R_drew)); exact Kd.R_mono (Kd.R_far (p := ⟨gb460, 1, none⟩) (Kd.R_far (p := ⟨gb460, 0, none⟩) (Kd.R_mono HO_15.out (fun k_ hk => (⟨hk, hk.2⟩ : _ ∧ k_ ≠ gb460))) (fun _ hk => hk.2) (.string ((rd_T73 y456 x17_1).f0))) (fun _ hk => hk.2) (.int .i64 ((rd_T73 y456 x17_1).f1))) (fun _ hk => trivial)⟩, ⟨pxb HB⟩⟩
        ·rw [if_neg c12] at H
         exact absurd H (by simp)
       ·rw [if_neg c11] at H
        have c11b0 : decide (((rd_T73 y456 x17_1).f1) < 0) = false := decide_eq_false c11
        clear c11
        by_cases c15 : x6_1 < ((rd_T73 y456 x17_1).f1)
        ·rw [if_pos c15] at H
         have c15b0 : decide (x6_1 < ((rd_T73 y456 x17_1).f1)) = true := decide_eq_true c15
         clear c15
         by_cases c16 : x5_1.length < 4398046511104
         ·rw [if_pos c16] at H
          have LMc16 := Aside0.mk c16
          clear c16
          obtain ⟨y461, hy461⟩ : ∃ y_ : List (S41), y_ = (x5_1 ++ [(⟨(⟨x6_1, (rd_T73 y456 x17_1).f1⟩ : S39), x7_1⟩ : S41)]) := ⟨_, rfl⟩
          replace H : (edit_between.l0 k1 y461 (wrap64 (((rd_T73 y456 x17_1).f1) + (((rd_T73 y456 x17_1).f0).size : Int))) (⟨#[]⟩ : ByteArray) y456 (y456.length : Int) (wrap64 (x17_1 + 1))) = some r := by first | (rw [hy461]; with_reducible exact H) | (have H2_ := (Option.bind_some _ _).symm.trans H; rw [hy461]; with_reducible exact H2_) | (have H2_ := (Option.bind_some _ _).symm.trans H; with_reducible exact H2_) | with_reducible exact H | (rw [hy461]; exact H) | exact H
          have Ny461 := Aside0.mk hy461
          clear hy461
          have H' := Aside0.mk H
          clear H
          have p459 : 0 ≤ (x17_1 : Int) := pxd
          have q459 : x17_1 < (y456.length : Int) := pxd
          obtain ⟨ad459, e459, hx459_0, hx459_1⟩ := at_T73 (Kd.R_reads' HO_15.out).2.2 x17_1 p459 q459
          cases e459
          replace p459 := eq_true p459
          replace q459 := eq_true q459
          go_wp2_with (first | ((with_reducible refine gate_dst (N := 9) rfl ?_); refine box_event ?hg (N := 9) ?hd (cs := #[.string (⟨#[]⟩ : ByteArray), .int .i64 0]) (t := 73) ?hr ?_; (case hd => rfl); (case hg => rfl); (case hr => first | (go_simp; done) | (go_simp; rfl)); intro gb460 hg w17 hbox hb; have BK460 := Aside0.mk (hbox); have GW460 := pxw HB hg; have GE460 := pxw HB hg; replace HO_5 := Aside0.mk (Kd.R_below (pxr HO_5) hb); replace HO_15 := Aside0.mk (Kd.R_below (Kd.R_elderB (pxr HO_15) gb460 (Nat.le_of_eq hg.symm)) hb); replace HB := pxs HB hb; clear hb hbox hg; obtain ⟨hcz18_0, hcz18_1, hfz18_0, hfz18_1⟩ := pxf2 BK460) | ((with_reducible refine gate_builtin (b := .append) (xs := #[.tmp 36, .tmp 43]) rfl ?_); at_builtin; refine Kd.R_append k41 (w0 := w) w.heap.size rfl (.tmp 36) (.tmp 43) 23 41 (.agg #[(.int .i64 0), (.int .i64 0), (.string ⟨#[]⟩)]) 32 rfl Try.underlying23 info41 rfl (by decide) (by omega) u5 x5_1 (⟨(⟨x6_1, (rd_T73 y456 x17_1).f1⟩ : S39), x7_1⟩ : S41) [.int .i64 x6_1, .int .i64 ((rd_T73 y456 x17_1).f1), .string x7_1] (fun _ => True) (fun _ => False) rfl (by first | (go_simp; done) | (go_simp; rfl)) ?aP (fun _ hk => hk.elim) ?aF ?aO ?aB ?aS ?aL ?_; (case aP => exact k41_mkM _ _ _ (⟨(⟨x6_1, (rd_T73 y456 x17_1).f1⟩ : S39), x7_1⟩ : S41)); (case aB => exact (pxb HB)); (case aF => exact (fun _ _ => trivial)); (case aO => exact (by (with_reducible repeat (first | apply Kd.R_alloc | apply Kd.R_drewN | apply Kd.R_drew)); exact Kd.R_mono (Kd.R_far (p := ⟨gb460, 1, none⟩) (Kd.R_far (p := ⟨gb460, 0, none⟩) (Kd.R_types HO_5.out BK460.out (by decide)) (fun _ hk => hk.2) (.string ((rd_T73 y456 x17_1).f0))) (fun _ hk => hk.2) (.int .i64 ((rd_T73 y456 x17_1).f1))) (fun _ hk => trivial))); (case aS => exact (below_size (pxb HB))); (case aL => have := LMc16.out; omega); intro v462 w19 ho hb hg hat; rw [← Ny461.out] at ho; have n0_ := Aside0.mk (Kd.R_over' (by (with_reducible repeat (first | apply Kd.R_alloc | apply Kd.R_drewN | apply Kd.R_drew)); exact (Kd.R_mono (Kd.R_far (p := ⟨gb460, 1, none⟩) (Kd.R_far (p := ⟨gb460, 0, none⟩) (Kd.R_mono HO_15.out (fun k_ hk => (⟨hk, hk.2⟩ : _ ∧ k_ ≠ gb460))) (fun _ hk => hk.2) (.string ((rd_T73 y456 x17_1).f0))) (fun _ hk => hk.2) (.int .i64 ((rd_T73 y456 x17_1).f1))) (fun _ h_ => h_.1))) (Kd.R_typed (by (with_reducible repeat (first | apply Kd.R_alloc | apply Kd.R_drewN | apply Kd.R_drew)); exact (Kd.R_mono (Kd.R_far (p := ⟨gb460, 1, none⟩) (Kd.R_far (p := ⟨gb460, 0, none⟩) (Kd.R_types HO_5.out BK460.out (by decide)) (fun _ hk => hk.2) (.string ((rd_T73 y456 x17_1).f0))) (fun _ hk => hk.2) (.int .i64 ((rd_T73 y456 x17_1).f1))) (fun _ h_ => h_.1)))) (by decide) hg); have n1_ := Aside0.mk (blk_grown (g := gb460) (o := .cells #[.string ((rd_T73 y456 x17_1).f0), .int .i64 ((rd_T73 y456 x17_1).f1)] 73 (0, 0)) (pxp BK460) hg (Kd.R_ne HO_5.out BK460.out (by decide))); have n2_ := Aside0.mk (hb); have n3_ := Aside0.mk (ho); clear HO_15; clear BK460; clear HB; clear HO_5; have HO_15 := n0_; have BK460 := n1_; have HB := n2_; have HO463 := n3_; clear n0_ n1_ n2_ n3_; clear ho hb hg hat; obtain ⟨hcz20_0, hcz20_1, hfz20_0, hfz20_1⟩ := pxf2 BK460))
          go_roundg k1
          case measure => have := HK1.out; omega
          case rel => exact ⟨(y461), (wrap64 (((rd_T73 y456 x17_1).f1) + (((rd_T73 y456 x17_1).f0).size : Int))), ((⟨#[]⟩ : ByteArray)), (wrap64 (x17_1 + 1)), (by first | rfl | (simp; done) | (simp [*]; done)), (by first | rfl | (simp; done) | (simp [*]; done)), (by first | rfl | (simp; done) | (simp [*]; done)), H', ⟨by have := HK1.out; omega⟩, ⟨pxr HO463⟩, ⟨by (with_reducible repeat (first | apply Kd.R_alloc | apply Kd.R_drewN | apply Kd.R_drew)); exact Kd.R_mono HO_15.out (fun _ hk => trivial)⟩, ⟨pxb HB⟩⟩
         ·rw [if_neg c16] at H
          exact absurd H (by simp)
        ·rw [if_neg c15] at H
         have c15b0 : decide (x6_1 < ((rd_T73 y456 x17_1).f1)) = false := decide_eq_false c15
         clear c15
         by_cases c21 : x7_1.toList = ([] : List UInt8)
         ·rw [if_pos c21] at H
          have c21b0 : (x7_1.toList == ([] : List UInt8)) = true := beq_iff_eq.mpr c21
          (try (have c21b0e : (x7_1.toList.isEmpty) = true := by simpa only [pxbeq, pxbne] using c21b0))
          have c21b1 : (x7_1.toList != ([] : List UInt8)) = false := bne_eq_false_iff_eq.mpr c21
          (try (have c21b1e : ((!x7_1.toList.isEmpty)) = false := by simpa only [pxbeq, pxbne] using c21b1))
          clear c21
          have H' := Aside0.mk H
          clear H
          have p459 : 0 ≤ (x17_1 : Int) := pxd
          have q459 : x17_1 < (y456.length : Int) := pxd
          obtain ⟨ad459, e459, hx459_0, hx459_1⟩ := at_T73 (Kd.R_reads' HO_15.out).2.2 x17_1 p459 q459
          cases e459
          replace p459 := eq_true p459
          replace q459 := eq_true q459
          go_wp2_with (first | ((with_reducible refine gate_dst (N := 9) rfl ?_); refine box_event ?hg (N := 9) ?hd (cs := #[.string (⟨#[]⟩ : ByteArray), .int .i64 0]) (t := 73) ?hr ?_; (case hd => rfl); (case hg => rfl); (case hr => first | (go_simp; done) | (go_simp; rfl)); intro gb460 hg w22 hbox hb; have BK460 := Aside0.mk (hbox); have GW460 := pxw HB hg; have GE460 := pxw HB hg; replace HO_5 := Aside0.mk (Kd.R_below (pxr HO_5) hb); replace HO_15 := Aside0.mk (Kd.R_below (Kd.R_elderB (pxr HO_15) gb460 (Nat.le_of_eq hg.symm)) hb); replace HB := pxs HB hb; clear hb hbox hg; obtain ⟨hcz23_0, hcz23_1, hfz23_0, hfz23_1⟩ := pxf2 BK460))
          go_roundg k1
          case measure => have := HK1.out; omega
          case rel => exact ⟨(x5_1), (wrap64 (((rd_T73 y456 x17_1).f1) + (((rd_T73 y456 x17_1).f0).size : Int))), ((⟨#[]⟩ : ByteArray)), (wrap64 (x17_1 + 1)), (by first | rfl | (simp; done) | (simp [*]; done)), (by first | rfl | (simp; done) | (simp [*]; done)), (by first | rfl | (simp; done) | (simp [*]; done)), H', ⟨by have := HK1.out; omega⟩, ⟨by (with_reducible repeat (first | apply Kd.R_alloc | apply Kd.R_drewN | apply Kd.R_drew)); exact Kd.R_mono (Kd.R_far (p := ⟨gb460, 1, none⟩) (Kd.R_far (p := ⟨gb460, 0, none⟩) (Kd.R_types HO_5.out BK460.out (by decide)) (fun _ hk => hk.2) (.string ((rd_T73 y456 x17_1).f0))) (fun _ hk => hk.2) (.int .i64 ((rd_T73 y456 x17_1).f1))) (fun _ hk => trivial)⟩, ⟨by (with_reducible repeat (first | apply Kd.R_alloc | apply Kd.R_drewN | apply Kd.R_drew)); exact Kd.R_mono (Kd.R_far (p := ⟨gb460, 1, none⟩) (Kd.R_far (p := ⟨gb460, 0, none⟩) (Kd.R_mono HO_15.out (fun k_ hk => (⟨hk, hk.2⟩ : _ ∧ k_ ≠ gb460))) (fun _ hk => hk.2) (.string ((rd_T73 y456 x17_1).f0))) (fun _ hk => hk.2) (.int .i64 ((rd_T73 y456 x17_1).f1))) (fun _ hk => trivial)⟩, ⟨pxb HB⟩⟩
         ·rw [if_neg c21] at H
          have c21b0 : (x7_1.toList == ([] : List UInt8)) = false := beq_eq_false_iff_ne.mpr c21
          (try (have c21b0e : (x7_1.toList.isEmpty) = false := by simpa only [pxbeq, pxbne] using c21b0))
          have c21b1 : (x7_1.toList != ([] : List UInt8)) = true := bne_iff_ne.mpr c21
          (try (have c21b1e : ((!x7_1.toList.isEmpty)) = true := by simpa only [pxbeq, pxbne] using c21b1))
          by_cases c24 : x5_1.length < 4398046511104
          ·rw [if_pos c24] at H
           have LMc24 := Aside0.mk c24
           clear c24
           obtain ⟨y464, hy464⟩ : ∃ y_ : List (S41), y_ = (x5_1 ++ [(⟨(⟨x6_1, (rd_T73 y456 x17_1).f1⟩ : S39), x7_1⟩ : S41)]) := ⟨_, rfl⟩
           replace H : (edit_between.l0 k1 y464 (wrap64 (((rd_T73 y456 x17_1).f1) + (((rd_T73 y456 x17_1).f0).size : Int))) (⟨#[]⟩ : ByteArray) y456 (y456.length : Int) (wrap64 (x17_1 + 1))) = some r := by first | (rw [hy464]; with_reducible exact H) | (have H2_ := (Option.bind_some _ _).symm.trans H; rw [hy464]; with_reducible exact H2_) | (have H2_ := (Option.bind_some _ _).symm.trans H; with_reducible exact H2_) | with_reducible exact H | (rw [hy464]; exact H) | exact H
           have Ny464 := Aside0.mk hy464
           clear hy464
           have H' := Aside0.mk H
           clear H
           have p459 : 0 ≤ (x17_1 : Int) := pxd
           have q459 : x17_1 < (y456.length : Int) := pxd
           obtain ⟨ad459, e459, hx459_0, hx459_1⟩ := at_T73 (Kd.R_reads' HO_15.out).2.2 x17_1 p459 q459
           cases e459
           replace p459 := eq_true p459
           replace q459 := eq_true q459
           go_wp2_with (first | ((with_reducible refine gate_dst (N := 9) rfl ?_); refine box_event ?hg (N := 9) ?hd (cs := #[.string (⟨#[]⟩ : ByteArray), .int .i64 0]) (t := 73) ?hr ?_; (case hd => rfl); (case hg => rfl); (case hr => first | (go_simp; done) | (go_simp; rfl)); intro gb460 hg w25 hbox hb; have BK460 := Aside0.mk (hbox); have GW460 := pxw HB hg; have GE460 := pxw HB hg; replace HO_5 := Aside0.mk (Kd.R_below (pxr HO_5) hb); replace HO_15 := Aside0.mk (Kd.R_below (Kd.R_elderB (pxr HO_15) gb460 (Nat.le_of_eq hg.symm)) hb); replace HB := pxs HB hb; clear hb hbox hg; obtain ⟨hcz26_0, hcz26_1, hfz26_0, hfz26_1⟩ := pxf2 BK460) | ((with_reducible refine gate_builtin (b := .append) (xs := #[.tmp 36, .tmp 43]) rfl ?_); at_builtin; refine Kd.R_append k41 (w0 := w) w.heap.size rfl (.tmp 36) (.tmp 43) 23 41 (.agg #[(.int .i64 0), (.int .i64 0), (.string ⟨#[]⟩)]) 32 rfl Try.underlying23 info41 rfl (by decide) (by omega) u5 x5_1 (⟨(⟨x6_1, (rd_T73 y456 x17_1).f1⟩ : S39), x7_1⟩ : S41) [.int .i64 x6_1, .int .i64 ((rd_T73 y456 x17_1).f1), .string x7_1] (fun _ => True) (fun _ => False) rfl (by first | (go_simp; done) | (go_simp; rfl)) ?aP (fun _ hk => hk.elim) ?aF ?aO ?aB ?aS ?aL ?_; (case aP => exact k41_mkM _ _ _ (⟨(⟨x6_1, (rd_T73 y456 x17_1).f1⟩ : S39), x7_1⟩ : S41)); (case aB => exact (pxb HB)); (case aF => exact (fun _ _ => trivial)); (case aO => exact (by (with_reducible repeat (first | apply Kd.R_alloc | apply Kd.R_drewN | apply Kd.R_drew)); exact Kd.R_mono (Kd.R_far (p := ⟨gb460, 1, none⟩) (Kd.R_far (p := ⟨gb460, 0, none⟩) (Kd.R_types HO_5.out BK460.out (by decide)) (fun _ hk => hk.2) (.string ((rd_T73 y456 x17_1).f0))) (fun _ hk => hk.2) (.int .i64 ((rd_T73 y456 x17_1).f1))) (fun _ hk => trivial))); (case aS => exact (below_size (pxb HB))); (case aL => have := LMc24.out; omega); intro v465 w27 ho hb hg hat; rw [← Ny464.out] at ho; have n0_ := Aside0.mk (Kd.R_over' (by (with_reducible repeat (first | apply Kd.R_alloc | apply Kd.R_drewN | apply Kd.R_drew)); exact (Kd.R_mono (Kd.R_far (p := ⟨gb460, 1, none⟩) (Kd.R_far (p := ⟨gb460, 0, none⟩) (Kd.R_mono HO_15.out (fun k_ hk => (⟨hk, hk.2⟩ : _ ∧ k_ ≠ gb460))) (fun _ hk => hk.2) (.string ((rd_T73 y456 x17_1).f0))) (fun _ hk => hk.2) (.int .i64 ((rd_T73 y456 x17_1).f1))) (fun _ h_ => h_.1))) (Kd.R_typed (by (with_reducible repeat (first | apply Kd.R_alloc | apply Kd.R_drewN | apply Kd.R_drew)); exact (Kd.R_mono (Kd.R_far (p := ⟨gb460, 1, none⟩) (Kd.R_far (p := ⟨gb460, 0, none⟩) (Kd.R_types HO_5.out BK460.out (by decide)) (fun _ hk => hk.2) (.string ((rd_T73 y456 x17_1).f0))) (fun _ hk => hk.2) (.int .i64 ((rd_T73 y456 x17_1).f1))) (fun _ h_ => h_.1)))) (by decide) hg); have n1_ := Aside0.mk (blk_grown (g := gb460) (o := .cells #[.string ((rd_T73 y456 x17_1).f0), .int .i64 ((rd_T73 y456 x17_1).f1)] 73 (0, 0)) (pxp BK460) hg (Kd.R_ne HO_5.out BK460.out (by decide))); have n2_ := Aside0.mk (hb); have n3_ := Aside0.mk (ho); clear HO_15; clear BK460; clear HB; clear HO_5; have HO_15 := n0_; have BK460 := n1_; have HB := n2_; have HO466 := n3_; clear n0_ n1_ n2_ n3_; clear ho hb hg hat; obtain ⟨hcz28_0, hcz28_1, hfz28_0, hfz28_1⟩ := pxf2 BK460))
           go_roundg k1
           case measure => have := HK1.out; omega
           case rel => exact ⟨(y464), (wrap64 (((rd_T73 y456 x17_1).f1) + (((rd_T73 y456 x17_1).f0).size : Int))), ((⟨#[]⟩ : ByteArray)), (wrap64 (x17_1 + 1)), (by first | rfl | (simp; done) | (simp [*]; done)), (by first | rfl | (simp; done) | (simp [*]; done)), (by first | rfl | (simp; done) | (simp [*]; done)), H', ⟨by have := HK1.out; omega⟩, ⟨pxr HO466⟩, ⟨by (with_reducible repeat (first | apply Kd.R_alloc | apply Kd.R_drewN | apply Kd.R_drew)); exact Kd.R_mono HO_15.out (fun _ hk => trivial)⟩, ⟨pxb HB⟩⟩
          ·rw [if_neg c24] at H
           exact absurd H (by simp)
      ·rw [if_neg c10] at H
       exact absurd H (by simp)
     ·rw [if_neg c9] at H
      exact absurd H (by simp)
    ·rw [if_neg c8] at H
     have c8b0 : decide (x17_1 < (y456.length : Int)) = false := decide_eq_false c8
     clear c8
     obtain rfl := Option.some.inj H
     go_wp2
     go_ret
     exact ⟨_, by first | rfl | (simp [errW_none, errW_some] <;> rfl) | (simp [*, errW_none, errW_some] <;> rfl) | (simp [*, pxbeq, pxbne, errW_none, errW_some]; done), pxr HO_5, pxb HB⟩
 ·rw [if_neg c4] at H
  exact absurd H (by simp)

end Go.Proofs.Ytoljmjhmieaggaa.X
