/- What the program's functions answer, as Lean functions, and that each call does just that; no condition. Written by a program (px.py) out of the translation. -/
import Derived.Test.YtoljmjhmieaggaaM2
import Derived.Test.YtoljmjhmieaggaaX34
import Derived.Test.YtoljmjhmieaggaaShort2
namespace Go.Proofs.Ytoljmjhmieaggaa.X
open Go.RowKit Go.Proofs.YtoljmjhmieaggaaW.PrintWords Go.Proofs.YtoljmjhmieaggaaW.PrintLast Go.Proofs.YtoljmjhmieaggaaW.PrintMore
attribute [local go_sem] max2_int min2_int max_two min_two max_three min_three max_four min_four   -- for this text's walks alone
set_option linter.unusedVariables false
set_option linter.unusedSimpArgs false

/-! ### edit_pieces: function 33 -/
def edit_pieces.l0 : Nat → ByteArray → List (S73) → Int → List (S41) → Int → Int → Option ((List (S73)))
 | 0, _, _, _, _, _, _ => none
 | k + 1, x0, x5, x6, x18, x19, x20 => if x20 < x19 then (if 0 ≤ x20 then (if x20 < (x18.length : Int) then (if x6 < ((rd_T41 x18 x20).f0.f0) then (if 0 ≤ x6 then (if x6 ≤ ((rd_T41 x18 x20).f0.f0) then (if ((rd_T41 x18 x20).f0.f0) ≤ (x0.size : Int) then (if x5.length < 5864062014805 then ((some (x5 ++ [(⟨x0.extract (x6 : Int).toNat (((rd_T41 x18 x20).f0.f0) : Int).toNat, x6⟩ : S73)] : List (S73))).bind fun y434 => (if ((rd_T41 x18 x20).f1).toList = ([] : List UInt8) then (edit_pieces.l0 k x0 y434 ((rd_T41 x18 x20).f0.f1) x18 x19 (wrap64 (x20 + 1))) else (if y434.length < 5864062014805 then (edit_pieces.l0 k x0 (y434 ++ [(⟨(rd_T41 x18 x20).f1, (-1)⟩ : S73)]) ((rd_T41 x18 x20).f0.f1) x18 x19 (wrap64 (x20 + 1))) else (none)))) else (none)) else (none)) else (none)) else (none)) else (if ((rd_T41 x18 x20).f1).toList = ([] : List UInt8) then (edit_pieces.l0 k x0 x5 ((rd_T41 x18 x20).f0.f1) x18 x19 (wrap64 (x20 + 1))) else (if x5.length < 5864062014805 then (edit_pieces.l0 k x0 (x5 ++ [(⟨(rd_T41 x18 x20).f1, (-1)⟩ : S73)]) ((rd_T41 x18 x20).f0.f1) x18 x19 (wrap64 (x20 + 1))) else (none)))) else (none)) else (none)) else (some x5)
def edit_pieces.f (k : Nat) (a0 : ByteArray) (l1 : List (S41)) : Option ((List (S73))) := (api_Edit.f l1).bind fun t426 => (if t426.length < 4398046511104 then ((some (t426 ++ [(⟨(⟨(a0.size : Int), (a0.size : Int)⟩ : S39), (⟨#[]⟩ : ByteArray)⟩ : S41)] : List (S41))).bind fun y429 => (edit_pieces.l0 k a0 ([] : List (S73)) 0 y429 (y429.length : Int) 0)) else (none))
theorem edit_pieces.mono_l : ∀ k, (∀ y0 y1 y2 y3 y4 y5, LeO (edit_pieces.l0 k y0 y1 y2 y3 y4 y5) (edit_pieces.l0 (k + 1) y0 y1 y2 y3 y4 y5))
 | 0 => fun _ _ _ _ _ _ r h => by simp [edit_pieces.l0] at h
 | k + 1 => by
  have ih0 := edit_pieces.mono_l k
  ·intro y0 y1 y2 y3 y4 y5
   unfold edit_pieces.l0
   repeat' first
   | (with_reducible exact ih0 _ _ _ _ _ _)
   | (with_reducible exact LeO.refl _)
   | (with_reducible exact LeO.none _)
   | (with_reducible refine LeO.ite ?_ ?_)
   | (with_reducible refine LeO.bind ?_ (fun _ => ?_))
   | exact ih0 _ _ _ _ _ _
   | exact LeO.none _
   | refine LeO.ite ?_ ?_
   | refine LeO.bind ?_ (fun _ => ?_)
theorem edit_pieces.mono : ∀ a0 a1 k, LeO (edit_pieces.f k a0 a1) (edit_pieces.f (k + 1) a0 a1) := by
 intro a0 a1 k
 have ih0 := edit_pieces.mono_l k
 unfold edit_pieces.f
 repeat' first
   | (with_reducible exact ih0 _ _ _ _ _ _)
   | (with_reducible exact LeO.refl _)
   | (with_reducible exact LeO.none _)
   | (with_reducible refine LeO.ite ?_ ?_)
   | (with_reducible refine LeO.bind ?_ (fun _ => ?_))
   | exact ih0 _ _ _ _ _ _
   | exact LeO.none _
   | refine LeO.ite ?_ ?_
   | refine LeO.bind ?_ (fun _ => ?_)
set_option maxHeartbeats 8000000 in
set_option maxRecDepth 100000 in
theorem edit_pieces.calls (k : Nat) (a0 : ByteArray) (A1 : Option Addr) (c1 : Nat) (l1 : List (S41)) (r : List (S73)) (w : World) (hr1 : Kd.C k41 w A1 l1.length l1) (hc1 : l1.length ≤ c1) (h : edit_pieces.f k a0 l1 = some r) :
  Calls Try.prog 33 #[.string a0, .slice A1 l1.length c1] w fun e w' => ∃ v0_ : Value, e = .returned (v0_) ∧ Kd.R k73 73 w' w.heap.size (fun _ => True) v0_ r ∧ Below w.heap.size w w' := by
 have hu39 := Try.underlying39
 have hu41 := Try.underlying41
 have hu73 := Try.underlying73
 have HR1 := Aside0.mk hr1
 have HC1 := Aside0.mk hc1
 clear hr1 hc1
 have HB := Aside0.mk (Below.refl w.heap.size w)
 have H : ((api_Edit.f l1).bind fun t426 => (if t426.length < 4398046511104 then ((some (t426 ++ [(⟨(⟨(a0.size : Int), (a0.size : Int)⟩ : S39), (⟨#[]⟩ : ByteArray)⟩ : S41)] : List (S41))).bind fun y429 => (edit_pieces.l0 k a0 ([] : List (S73)) 0 y429 (y429.length : Int) 0)) else (none))) = some r := h
 clear h
 replace H := Option.bind_eq_some_iff.mp H
 obtain ⟨t426, A30, H⟩ := H
 replace H : (if t426.length < 4398046511104 then ((some (t426 ++ [(⟨(⟨(a0.size : Int), (a0.size : Int)⟩ : S39), (⟨#[]⟩ : ByteArray)⟩ : S41)] : List (S41))).bind fun y429 => (edit_pieces.l0 k a0 ([] : List (S73)) 0 y429 (y429.length : Int) 0)) else (none)) = some r := H
 have A3 := Aside0.mk A30
 clear A30
 by_cases c4 : t426.length < 4398046511104
 ·rw [if_pos c4] at H
  have LMc4 := Aside0.mk c4
  clear c4
  obtain ⟨y429, hy429⟩ : ∃ y_ : List (S41), y_ = (t426 ++ [(⟨(⟨(a0.size : Int), (a0.size : Int)⟩ : S39), (⟨#[]⟩ : ByteArray)⟩ : S41)]) := ⟨_, rfl⟩
  replace H : (edit_pieces.l0 k a0 ([] : List (S73)) 0 y429 (y429.length : Int) 0) = some r := by first | (rw [hy429]; with_reducible exact H) | (have H2_ := (Option.bind_some _ _).symm.trans H; rw [hy429]; with_reducible exact H2_) | (have H2_ := (Option.bind_some _ _).symm.trans H; with_reducible exact H2_) | with_reducible exact H | (rw [hy429]; exact H) | exact H
  have Ny429 := Aside0.mk hy429
  clear hy429
  have H' := Aside0.mk H
  clear H
  go_enter Try.func33, Try.ntmps33
  go_wp2_with (first | ((with_reducible refine gate_callee (f := 34) rfl ?_); refine goesL_ (some 10) rfl rfl Try.func34 (by kernel_rfl) rfl #[.slice A1 l1.length c1] rfl (by (try simp only [List.map_toArray, List.map_cons, List.map_nil]); first | done | rfl | (simp only [List.length_drop, List.length_take]; rfl)) ?_; (with_reducible refine (api_Edit.calls _ _ l1 t426 _ ?side1 ?side2 A3.out).mono ?_); (case side1 => repeat (first | exact HR1.out | (with_reducible refine Kd.C_alloc ?_ _) | (with_reducible refine Kd.C_drewN ?_ _) | (with_reducible refine Kd.C_drew ?_))); (case side2 => exact HC1.out); rintro e w5 ⟨v427, rfl, ho0, hb⟩; refine ⟨_, rfl, ?_⟩; have HO428 := Aside0.mk (Kd.R_lower ho0 (below_size (pxb HB))); replace HB := pxs HB hb; (try clear hb); (try clear hb2); (try clear hk); (try clear hi); (try clear ho0)) | ((with_reducible refine gate_builtin (b := .append) (xs := #[.tmp 10, .tmp 17]) rfl ?_); at_builtin; refine Kd.R_append k41 (w0 := w) w.heap.size rfl (.tmp 10) (.tmp 17) 23 41 (.agg #[(.int .i64 0), (.int .i64 0), (.string ⟨#[]⟩)]) 32 rfl Try.underlying23 info41 rfl (by decide) (by omega) v427 t426 (⟨(⟨(a0.size : Int), (a0.size : Int)⟩ : S39), (⟨#[]⟩ : ByteArray)⟩ : S41) [.int .i64 (a0.size : Int), .int .i64 (a0.size : Int), .string (⟨#[]⟩ : ByteArray)] (fun _ => True) (fun _ => False) rfl rfl ?aP (fun _ hk => hk.elim) ?aF ?aO ?aB ?aS ?aL ?_; (case aP => exact k41_mkM _ _ _ (⟨(⟨(a0.size : Int), (a0.size : Int)⟩ : S39), (⟨#[]⟩ : ByteArray)⟩ : S41)); (case aB => exact (pxb HB)); (case aF => exact (fun _ _ => trivial)); (case aO => exact (pxr HO428)); (case aS => exact (below_size (pxb HB))); (case aL => have := LMc4.out; omega); intro v430 w6 ho hb hg hat; rw [← Ny429.out] at ho; have n0_ := Aside0.mk (hb); have n1_ := Aside0.mk (ho); clear HB; clear HO428; have HB := n0_; have HO431 := n1_; clear n0_ n1_; clear ho hb hg hat; obtain ⟨Ao7, co7, eo7⟩ := Kd.R_slice HO431.out; subst eo7))
  go_loopg [5, 6, 20] k (fun kq v5 v6 v20 w' => ∃ (x5_1 : List (S73)) (x6_1 : Int) (x20_1 : Int), v6 = .int .i64 x6_1 ∧ v20 = .int .i64 x20_1 ∧ Aside0 (edit_pieces.l0 kq a0 x5_1 x6_1 y429 (y429.length : Int) x20_1 = some r) ∧ Aside0 (kq ≤ k) ∧ Aside0 (Kd.R k73 73 w' w.heap.size (fun _ => True) v5 x5_1) ∧ Aside0 (Kd.R k41 41 w' w.heap.size (fun _ => True) (.slice Ao7 y429.length co7) y429) ∧ Aside0 (Below w.heap.size w w'))
  case atStart => exact ⟨(([] : List (S73))), (0), (0), (by first | rfl | (simp; done) | (simp [*]; done)), (by first | rfl | (simp; done) | (simp [*]; done)), H', ⟨Nat.le_refl _⟩, ⟨by first | exact Kd.R_nil _ _ _ _ _ | exact Kd.N_nil _ _ _ _ _ | exact Kd.V_nil _ _ _ _ _ | exact Kd.Q_nil _ _ _ _ _ | exact Kd.S_nil _ _ _ _ _⟩, ⟨pxr HO431⟩, ⟨pxb HB⟩⟩
  case round =>
   clear H'
   (try clear c1); (try clear p2); (try clear c3); (try clear c4)
   obtain ⟨x5_1, x6_1, x20_1, rfl, rfl, HA, HK1, HO_5, HO_18, HB⟩ := hrel
   cases gk with
   | zero => exact absurd HA.out (by simp [edit_pieces.l0])
   | succ k1 =>
    have H := HA.out
    clear HA
    simp only [edit_pieces.l0] at H
    by_cases c8 : x20_1 < (y429.length : Int)
    ·rw [if_pos c8] at H
     have c8b0 : decide (x20_1 < (y429.length : Int)) = true := decide_eq_true c8
     clear c8
     by_cases c9 : 0 ≤ x20_1
     ·rw [if_pos c9] at H
      have c9b0 : decide (0 ≤ x20_1) = true := decide_eq_true c9
      clear c9
      by_cases c10 : x20_1 < (y429.length : Int)
      ·rw [if_pos c10] at H
       have c10b0 : decide (x20_1 < (y429.length : Int)) = true := decide_eq_true c10
       clear c10
       by_cases c11 : x6_1 < ((rd_T41 y429 x20_1).f0.f0)
       ·rw [if_pos c11] at H
        have c11b0 : decide (x6_1 < ((rd_T41 y429 x20_1).f0.f0)) = true := decide_eq_true c11
        clear c11
        by_cases c12 : 0 ≤ x6_1
        ·rw [if_pos c12] at H
         have c12b0 := eq_true c12
         have c12b1 : decide (0 ≤ x6_1) = true := decide_eq_true c12
         clear c12
         by_cases c13 : x6_1 ≤ ((rd_T41 y429 x20_1).f0.f0)
         ·rw [if_pos c13] at H
          have c13b0 := eq_true c13
          have c13b1 : decide (x6_1 ≤ ((rd_T41 y429 x20_1).f0.f0)) = true := decide_eq_true c13
          clear c13
          by_cases c14 : ((rd_T41 y429 x20_1).f0.f0) ≤ (a0.size : Int)
          ·rw [if_pos c14] at H
           have c14b0 := eq_true c14
           have c14b1 : decide (((rd_T41 y429 x20_1).f0.f0) ≤ (a0.size : Int)) = true := decide_eq_true c14
           clear c14
           by_cases c15 : x5_1.length < 5864062014805
           ·rw [if_pos c15] at H
            have LMc15 := Aside0.mk c15
            clear c15
            obtain ⟨y434, hy434⟩ : ∃ y_ : List (S73), y_ = (x5_1 ++ [(⟨a0.extract (x6_1 : Int).toNat (((rd_T41 y429 x20_1).f0.f0) : Int).toNat, x6_1⟩ : S73)]) := ⟨_, rfl⟩
            replace H : (if ((rd_T41 y429 x20_1).f1).toList = ([] : List UInt8) then (edit_pieces.l0 k1 a0 y434 ((rd_T41 y429 x20_1).f0.f1) y429 (y429.length : Int) (wrap64 (x20_1 + 1))) else (if y434.length < 5864062014805 then (edit_pieces.l0 k1 a0 (y434 ++ [(⟨(rd_T41 y429 x20_1).f1, (-1)⟩ : S73)]) ((rd_T41 y429 x20_1).f0.f1) y429 (y429.length : Int) (wrap64 (x20_1 + 1))) else (none))) = some r := by first | (rw [hy434]; with_reducible exact H) | (have H2_ := (Option.bind_some _ _).symm.trans H; rw [hy434]; with_reducible exact H2_) | (have H2_ := (Option.bind_some _ _).symm.trans H; with_reducible exact H2_) | with_reducible exact H | (rw [hy434]; exact H) | exact H
            have Ny434 := Aside0.mk hy434
            clear hy434
            by_cases c16 : ((rd_T41 y429 x20_1).f1).toList = ([] : List UInt8)
            ·rw [if_pos c16] at H
             have c16b0 : (((rd_T41 y429 x20_1).f1).toList == ([] : List UInt8)) = true := beq_iff_eq.mpr c16
             (try (have c16b0e : (((rd_T41 y429 x20_1).f1).toList.isEmpty) = true := by simpa only [pxbeq, pxbne] using c16b0))
             have c16b1 : (((rd_T41 y429 x20_1).f1).toList != ([] : List UInt8)) = false := bne_eq_false_iff_eq.mpr c16
             (try (have c16b1e : ((!((rd_T41 y429 x20_1).f1).toList.isEmpty)) = false := by simpa only [pxbeq, pxbne] using c16b1))
             clear c16
             have H' := Aside0.mk H
             clear H
             have p432 : 0 ≤ (x20_1 : Int) := pxd
             have q432 : x20_1 < (y429.length : Int) := pxd
             obtain ⟨ad432, e432, hx432_0, hx432_1, hx432_2⟩ := at_T41 (Kd.R_reads' HO_18.out).2.2 x20_1 p432 q432
             cases e432
             replace p432 := eq_true p432
             replace q432 := eq_true q432
             go_wp2_with (first | ((with_reducible refine gate_dst (N := 8) rfl ?_); refine box_event ?hg (N := 8) ?hd (cs := #[.int .i64 0, .int .i64 0, .string (⟨#[]⟩ : ByteArray)]) (t := 41) ?hr ?_; (case hd => rfl); (case hg => rfl); (case hr => first | (go_simp; done) | (go_simp; rfl)); intro gb433 hg w17 hbox hb; have BK433 := Aside0.mk (hbox); have GW433 := pxw HB hg; have GE433 := pxw HB hg; replace HO_5 := Aside0.mk (Kd.R_below (pxr HO_5) hb); replace HO_18 := Aside0.mk (Kd.R_below (Kd.R_elderB (pxr HO_18) gb433 (Nat.le_of_eq hg.symm)) hb); replace HB := pxs HB hb; clear hb hbox hg; obtain ⟨hcz18_0, hcz18_1, hcz18_2, hfz18_0, hfz18_1, hfz18_2⟩ := pxf3 BK433) | ((with_reducible refine gate_builtin (b := .append) (xs := #[.tmp 29, .tmp 38]) rfl ?_); at_builtin; refine Kd.R_append k73 (w0 := w) w.heap.size rfl (.tmp 29) (.tmp 38) 68 73 (.agg #[(.string ⟨#[]⟩), (.int .i64 0)]) 24 rfl Try.underlying68 info73 rfl (by decide) (by omega) u5 x5_1 (⟨a0.extract (x6_1 : Int).toNat (((rd_T41 y429 x20_1).f0.f0) : Int).toNat, x6_1⟩ : S73) [.string (a0.extract (x6_1 : Int).toNat (((rd_T41 y429 x20_1).f0.f0) : Int).toNat), .int .i64 x6_1] (fun _ => True) (fun _ => False) rfl (by first | (go_simp; done) | (go_simp; rfl)) ?aP (fun _ hk => hk.elim) ?aF ?aO ?aB ?aS ?aL ?_; (case aP => exact k73_mkM _ _ _ (⟨a0.extract (x6_1 : Int).toNat (((rd_T41 y429 x20_1).f0.f0) : Int).toNat, x6_1⟩ : S73)); (case aB => exact (pxb HB)); (case aF => exact (fun _ _ => trivial)); (case aO => exact (by (with_reducible repeat (first | apply Kd.R_alloc | apply Kd.R_drewN | apply Kd.R_drew)); exact Kd.R_mono (Kd.R_far (p := ⟨gb433, 2, none⟩) (Kd.R_far (p := ⟨gb433, 1, none⟩) (Kd.R_far (p := ⟨gb433, 0, none⟩) (Kd.R_types HO_5.out BK433.out (by decide)) (fun _ hk => hk.2) (.int .i64 ((rd_T41 y429 x20_1).f0.f0))) (fun _ hk => hk.2) (.int .i64 ((rd_T41 y429 x20_1).f0.f1))) (fun _ hk => hk.2) (.string ((rd_T41 y429 x20_1).f1))) (fun _ hk => trivial))); (case aS => exact (below_size (pxb HB))); (case aL => have := LMc15.out; omega); intro v435 w19 ho hb hg hat; rw [← Ny434.out] at ho; have n0_ := Aside0.mk (Kd.R_over' (by (with_reducible repeat (first | apply Kd.R_alloc | apply Kd.R_drewN | apply Kd.R_drew)); exact (Kd.R_mono (Kd.R_far (p := ⟨gb433, 2, none⟩) (Kd.R_far (p := ⟨gb433, 1, none⟩) (Kd.R_far (p := ⟨gb433, 0, none⟩) (Kd.R_mono HO_18.out (fun k_ hk => (⟨hk, hk.2⟩ : _ ∧ k_ ≠ gb433))) (fun _ hk => hk.2) (.int .i64 ((rd_T41 y429 x20_1).f0.f0))) (fun _ hk => hk.2) (.int .i64 ((rd_T41 y429 x20_1).f0.f1))) (fun _ hk => hk.2) (.string ((rd_T41 y429 x20_1).f1))) (fun _ h_ => h_.1))) (Kd.R_typed (by (with_reducible repeat (first | apply Kd.R_alloc | apply Kd.R_drewN | apply Kd.R_drew)); exact (Kd.R_mono (Kd.R_far (p := ⟨gb433, 2, none⟩) (Kd.R_far (p := ⟨gb433, 1, none⟩) (Kd.R_far (p := ⟨gb433, 0, none⟩) (Kd.R_types HO_5.out BK433.out (by decide)) (fun _ hk => hk.2) (.int .i64 ((rd_T41 y429 x20_1).f0.f0))) (fun _ hk => hk.2) (.int .i64 ((rd_T41 y429 x20_1).f0.f1))) (fun _ hk => hk.2) (.string ((rd_T41 y429 x20_1).f1))) (fun _ h_ => h_.1)))) (by decide) hg); have n1_ := Aside0.mk (blk_grown (g := gb433) (o := .cells #[.int .i64 ((rd_T41 y429 x20_1).f0.f0), .int .i64 ((rd_T41 y429 x20_1).f0.f1), .string ((rd_T41 y429 x20_1).f1)] 41 (0, 0)) (pxp BK433) hg (Kd.R_ne HO_5.out BK433.out (by decide))); have n2_ := Aside0.mk (hb); have n3_ := Aside0.mk (ho); clear HO_18; clear BK433; clear HB; clear HO_5; have HO_18 := n0_; have BK433 := n1_; have HB := n2_; have HO436 := n3_; clear n0_ n1_ n2_ n3_; clear ho hb hg hat; obtain ⟨hcz20_0, hcz20_1, hcz20_2, hfz20_0, hfz20_1, hfz20_2⟩ := pxf3 BK433))
             go_roundg k1
             case measure => have := HK1.out; omega
             case rel => exact ⟨(y434), ((rd_T41 y429 x20_1).f0.f1), (wrap64 (x20_1 + 1)), (by first | rfl | (simp; done) | (simp [*]; done)), (by first | rfl | (simp; done) | (simp [*]; done)), H', ⟨by have := HK1.out; omega⟩, ⟨pxr HO436⟩, ⟨by (with_reducible repeat (first | apply Kd.R_alloc | apply Kd.R_drewN | apply Kd.R_drew)); exact Kd.R_mono HO_18.out (fun _ hk => trivial)⟩, ⟨pxb HB⟩⟩
            ·rw [if_neg c16] at H
             have c16b0 : (((rd_T41 y429 x20_1).f1).toList == ([] : List UInt8)) = false := beq_eq_false_iff_ne.mpr c16
             (try (have c16b0e : (((rd_T41 y429 x20_1).f1).toList.isEmpty) = false := by simpa only [pxbeq, pxbne] using c16b0))
             have c16b1 : (((rd_T41 y429 x20_1).f1).toList != ([] : List UInt8)) = true := bne_iff_ne.mpr c16
             (try (have c16b1e : ((!((rd_T41 y429 x20_1).f1).toList.isEmpty)) = true := by simpa only [pxbeq, pxbne] using c16b1))
             by_cases c21 : y434.length < 5864062014805
             ·rw [if_pos c21] at H
              have LMc21 := Aside0.mk c21
              clear c21
              obtain ⟨y437, hy437⟩ : ∃ y_ : List (S73), y_ = (y434 ++ [(⟨(rd_T41 y429 x20_1).f1, (-1)⟩ : S73)]) := ⟨_, rfl⟩
              replace H : (edit_pieces.l0 k1 a0 y437 ((rd_T41 y429 x20_1).f0.f1) y429 (y429.length : Int) (wrap64 (x20_1 + 1))) = some r := by first | (rw [hy437]; with_reducible exact H) | (have H2_ := (Option.bind_some _ _).symm.trans H; rw [hy437]; with_reducible exact H2_) | (have H2_ := (Option.bind_some _ _).symm.trans H; with_reducible exact H2_) | with_reducible exact H | (rw [hy437]; exact H) | exact H
              have Ny437 := Aside0.mk hy437
              clear hy437
              have H' := Aside0.mk H
              clear H
              have p432 : 0 ≤ (x20_1 : Int) := pxd
              have q432 : x20_1 < (y429.length : Int) := pxd
              obtain ⟨ad432, e432, hx432_0, hx432_1, hx432_2⟩ := at_T41 (Kd.R_reads' HO_18.out).2.2 x20_1 p432 q432
              cases e432
              replace p432 := eq_true p432
              replace q432 := eq_true q432
              go_wp2_with (first | ((with_reducible refine gate_dst (N := 8) rfl ?_); refine box_event ?hg (N := 8) ?hd (cs := #[.int .i64 0, .int .i64 0, .string (⟨#[]⟩ : ByteArray)]) (t := 41) ?hr ?_; (case hd => rfl); (case hg => rfl); (case hr => first | (go_simp; done) | (go_simp; rfl)); intro gb433 hg w22 hbox hb; have BK433 := Aside0.mk (hbox); have GW433 := pxw HB hg; have GE433 := pxw HB hg; replace HO_5 := Aside0.mk (Kd.R_below (pxr HO_5) hb); replace HO_18 := Aside0.mk (Kd.R_below (Kd.R_elderB (pxr HO_18) gb433 (Nat.le_of_eq hg.symm)) hb); replace HB := pxs HB hb; clear hb hbox hg; obtain ⟨hcz23_0, hcz23_1, hcz23_2, hfz23_0, hfz23_1, hfz23_2⟩ := pxf3 BK433) | ((with_reducible refine gate_builtin (b := .append) (xs := #[.tmp 29, .tmp 38]) rfl ?_); at_builtin; refine Kd.R_append k73 (w0 := w) w.heap.size rfl (.tmp 29) (.tmp 38) 68 73 (.agg #[(.string ⟨#[]⟩), (.int .i64 0)]) 24 rfl Try.underlying68 info73 rfl (by decide) (by omega) u5 x5_1 (⟨a0.extract (x6_1 : Int).toNat (((rd_T41 y429 x20_1).f0.f0) : Int).toNat, x6_1⟩ : S73) [.string (a0.extract (x6_1 : Int).toNat (((rd_T41 y429 x20_1).f0.f0) : Int).toNat), .int .i64 x6_1] (fun _ => True) (fun _ => False) rfl (by first | (go_simp; done) | (go_simp; rfl)) ?aP (fun _ hk => hk.elim) ?aF ?aO ?aB ?aS ?aL ?_; (case aP => exact k73_mkM _ _ _ (⟨a0.extract (x6_1 : Int).toNat (((rd_T41 y429 x20_1).f0.f0) : Int).toNat, x6_1⟩ : S73)); (case aB => exact (pxb HB)); (case aF => exact (fun _ _ => trivial)); (case aO => exact (by (with_reducible repeat (first | apply Kd.R_alloc | apply Kd.R_drewN | apply Kd.R_drew)); exact Kd.R_mono (Kd.R_far (p := ⟨gb433, 2, none⟩) (Kd.R_far (p := ⟨gb433, 1, none⟩) (Kd.R_far (p := ⟨gb433, 0, none⟩) (Kd.R_types HO_5.out BK433.out (by decide)) (fun _ hk => hk.2) (.int .i64 ((rd_T41 y429 x20_1).f0.f0))) (fun _ hk => hk.2) (.int .i64 ((rd_T41 y429 x20_1).f0.f1))) (fun _ hk => hk.2) (.string ((rd_T41 y429 x20_1).f1))) (fun _ hk => trivial))); (case aS => exact (below_size (pxb HB))); (case aL => have := LMc15.out; omega); intro v435 w24 ho hb hg hat; rw [← Ny434.out] at ho; have n0_ := Aside0.mk (Kd.R_over' (by (with_reducible repeat (first | apply Kd.R_alloc | apply Kd.R_drewN | apply Kd.R_drew)); exact (Kd.R_mono (Kd.R_far (p := ⟨gb433, 2, none⟩) (Kd.R_far (p := ⟨gb433, 1, none⟩) (Kd.R_far (p := ⟨gb433, 0, none⟩) (Kd.R_mono HO_18.out (fun k_ hk => (⟨hk, hk.2⟩ : _ ∧ k_ ≠ gb433))) (fun _ hk => hk.2) (.int .i64 ((rd_T41 y429 x20_1).f0.f0))) (fun _ hk => hk.2) (.int .i64 ((rd_T41 y429 x20_1).f0.f1))) (fun _ hk => hk.2) (.string ((rd_T41 y429 x20_1).f1))) (fun _ h_ => h_.1))) (Kd.R_typed (by (with_reducible repeat (first | apply Kd.R_alloc | apply Kd.R_drewN | apply Kd.R_drew)); exact (Kd.R_mono (Kd.R_far (p := ⟨gb433, 2, none⟩) (Kd.R_far (p := ⟨gb433, 1, none⟩) (Kd.R_far (p := ⟨gb433, 0, none⟩) (Kd.R_types HO_5.out BK433.out (by decide)) (fun _ hk => hk.2) (.int .i64 ((rd_T41 y429 x20_1).f0.f0))) (fun _ hk => hk.2) (.int .i64 ((rd_T41 y429 x20_1).f0.f1))) (fun _ hk => hk.2) (.string ((rd_T41 y429 x20_1).f1))) (fun _ h_ => h_.1)))) (by decide) hg); have n1_ := Aside0.mk (blk_grown (g := gb433) (o := .cells #[.int .i64 ((rd_T41 y429 x20_1).f0.f0), .int .i64 ((rd_T41 y429 x20_1).f0.f1), .string ((rd_T41 y429 x20_1).f1)] 41 (0, 0)) (pxp BK433) hg (Kd.R_ne HO_5.out BK433.out (by decide))); have n2_ := Aside0.mk (hb); have n3_ := Aside0.mk (ho); clear HO_18; clear BK433; clear HB; clear HO_5; have HO_18 := n0_; have BK433 := n1_; have HB := n2_; have HO436 := n3_; clear n0_ n1_ n2_ n3_; clear ho hb hg hat; obtain ⟨hcz25_0, hcz25_1, hcz25_2, hfz25_0, hfz25_1, hfz25_2⟩ := pxf3 BK433) | ((with_reducible refine gate_builtin (b := .append) (xs := #[.tmp 43, .tmp 47]) rfl ?_); at_builtin; refine Kd.R_append k73 (w0 := w) w.heap.size rfl (.tmp 43) (.tmp 47) 68 73 (.agg #[(.string ⟨#[]⟩), (.int .i64 0)]) 24 rfl Try.underlying68 info73 rfl (by decide) (by omega) v435 y434 (⟨(rd_T41 y429 x20_1).f1, (-1)⟩ : S73) [.string ((rd_T41 y429 x20_1).f1), .int .i64 (-1)] (fun _ => True) (fun _ => False) rfl rfl ?aP (fun _ hk => hk.elim) ?aF ?aO ?aB ?aS ?aL ?_; (case aP => exact k73_mkM _ _ _ (⟨(rd_T41 y429 x20_1).f1, (-1)⟩ : S73)); (case aB => exact (pxb HB)); (case aF => exact (fun _ _ => trivial)); (case aO => exact (pxr HO436)); (case aS => exact (below_size (pxb HB))); (case aL => have := LMc21.out; omega); intro v438 w26 ho hb hg hat; rw [← Ny437.out] at ho; have n0_ := Aside0.mk (Kd.R_over' (pxr HO_18) (Kd.R_typed (pxr HO436)) (by decide) hg); have n1_ := Aside0.mk (blk_grown (g := gb433) (o := .cells #[.int .i64 ((rd_T41 y429 x20_1).f0.f0), .int .i64 ((rd_T41 y429 x20_1).f0.f1), .string ((rd_T41 y429 x20_1).f1)] 41 (0, 0)) (pxq BK433) hg (Kd.R_ne HO436.out BK433.out (by decide))); have n2_ := Aside0.mk (hb); have n3_ := Aside0.mk (ho); clear HO_18; clear BK433; clear HB; clear HO436; have HO_18 := n0_; have BK433 := n1_; have HB := n2_; have HO439 := n3_; clear n0_ n1_ n2_ n3_; clear ho hb hg hat; obtain ⟨hcz27_0, hcz27_1, hcz27_2, hfz27_0, hfz27_1, hfz27_2⟩ := pxf3 BK433))
              go_roundg k1
              case measure => have := HK1.out; omega
              case rel => exact ⟨(y437), ((rd_T41 y429 x20_1).f0.f1), (wrap64 (x20_1 + 1)), (by first | rfl | (simp; done) | (simp [*]; done)), (by first | rfl | (simp; done) | (simp [*]; done)), H', ⟨by have := HK1.out; omega⟩, ⟨pxr HO439⟩, ⟨by (with_reducible repeat (first | apply Kd.R_alloc | apply Kd.R_drewN | apply Kd.R_drew)); exact Kd.R_mono HO_18.out (fun _ hk => trivial)⟩, ⟨pxb HB⟩⟩
             ·rw [if_neg c21] at H
              exact absurd H (by simp)
           ·rw [if_neg c15] at H
            exact absurd H (by simp)
          ·rw [if_neg c14] at H
           exact absurd H (by simp)
         ·rw [if_neg c13] at H
          exact absurd H (by simp)
        ·rw [if_neg c12] at H
         exact absurd H (by simp)
       ·rw [if_neg c11] at H
        have c11b0 : decide (x6_1 < ((rd_T41 y429 x20_1).f0.f0)) = false := decide_eq_false c11
        clear c11
        by_cases c28 : ((rd_T41 y429 x20_1).f1).toList = ([] : List UInt8)
        ·rw [if_pos c28] at H
         have c28b0 : (((rd_T41 y429 x20_1).f1).toList == ([] : List UInt8)) = true := beq_iff_eq.mpr c28
         (try (have c28b0e : (((rd_T41 y429 x20_1).f1).toList.isEmpty) = true := by simpa only [pxbeq, pxbne] using c28b0))
         have c28b1 : (((rd_T41 y429 x20_1).f1).toList != ([] : List UInt8)) = false := bne_eq_false_iff_eq.mpr c28
         (try (have c28b1e : ((!((rd_T41 y429 x20_1).f1).toList.isEmpty)) = false := by simpa only [pxbeq, pxbne] using c28b1))
         clear c28
         have H' := Aside0.mk H
         clear H
         have p432 : 0 ≤ (x20_1 : Int) := pxd
         have q432 : x20_1 < (y429.length : Int) := pxd
         obtain ⟨ad432, e432, hx432_0, hx432_1, hx432_2⟩ := at_T41 (Kd.R_reads' HO_18.out).2.2 x20_1 p432 q432
         cases e432
         replace p432 := eq_true p432
         replace q432 := eq_true q432
         go_wp2_with (first | ((with_reducible refine gate_dst (N := 8) rfl ?_); refine box_event ?hg (N := 8) ?hd (cs := #[.int .i64 0, .int .i64 0, .string (⟨#[]⟩ : ByteArray)]) (t := 41) ?hr ?_; (case hd => rfl); (case hg => rfl); (case hr => first | (go_simp; done) | (go_simp; rfl)); intro gb433 hg w29 hbox hb; have BK433 := Aside0.mk (hbox); have GW433 := pxw HB hg; have GE433 := pxw HB hg; replace HO_5 := Aside0.mk (Kd.R_below (pxr HO_5) hb); replace HO_18 := Aside0.mk (Kd.R_below (Kd.R_elderB (pxr HO_18) gb433 (Nat.le_of_eq hg.symm)) hb); replace HB := pxs HB hb; clear hb hbox hg; obtain ⟨hcz30_0, hcz30_1, hcz30_2, hfz30_0, hfz30_1, hfz30_2⟩ := pxf3 BK433))
         go_roundg k1
         case measure => have := HK1.out; omega
         case rel => exact ⟨(x5_1), ((rd_T41 y429 x20_1).f0.f1), (wrap64 (x20_1 + 1)), (by first | rfl | (simp; done) | (simp [*]; done)), (by first | rfl | (simp; done) | (simp [*]; done)), H', ⟨by have := HK1.out; omega⟩, ⟨by (with_reducible repeat (first | apply Kd.R_alloc | apply Kd.R_drewN | apply Kd.R_drew)); exact Kd.R_mono (Kd.R_far (p := ⟨gb433, 2, none⟩) (Kd.R_far (p := ⟨gb433, 1, none⟩) (Kd.R_far (p := ⟨gb433, 0, none⟩) (Kd.R_types HO_5.out BK433.out (by decide)) (fun _ hk => hk.2) (.int .i64 ((rd_T41 y429 x20_1).f0.f0))) (fun _ hk => hk.2) (.int .i64 ((rd_T41 y429 x20_1).f0.f1))) (fun _ hk => hk.2) (.string ((rd_T41 y429 x20_1).f1))) (fun _ hk => trivial)⟩, ⟨by (with_reducible repeat (first | apply Kd.R_alloc | apply Kd.R_drewN | apply Kd.R_drew)); exact Kd.R_mono (Kd.R_far (p := ⟨gb433, 2, none⟩) (Kd.R_far (p := ⟨gb433, 1, none⟩) (Kd.R_far (p := ⟨gb433, 0, none⟩) (Kd.R_mono HO_18.out (fun k_ hk => (⟨hk, hk.2⟩ : _ ∧ k_ ≠ gb433))) (fun _ hk => hk.2) (.int .i64 ((rd_T41 y429 x20_1).f0.f0))) (fun _ hk => hk.2) (.int .i64 ((rd_T41 y429 x20_1).f0.f1))) (fun _ hk => hk.2) (.string ((rd_T41 y429 x20_1).f1))) (fun _ hk => trivial)⟩, ⟨pxb HB⟩⟩
        ·rw [if_neg c28] at H
         have c28b0 : (((rd_T41 y429 x20_1).f1).toList == ([] : List UInt8)) = false := beq_eq_false_iff_ne.mpr c28
         (try (have c28b0e : (((rd_T41 y429 x20_1).f1).toList.isEmpty) = false := by simpa only [pxbeq, pxbne] using c28b0))
         have c28b1 : (((rd_T41 y429 x20_1).f1).toList != ([] : List UInt8)) = true := bne_iff_ne.mpr c28
         (try (have c28b1e : ((!((rd_T41 y429 x20_1).f1).toList.isEmpty)) = true := by simpa only [pxbeq, pxbne] using c28b1))
         by_cases c31 : x5_1.length < 5864062014805
         ·rw [if_pos c31] at H
          have LMc31 := Aside0.mk c31
          clear c31
          obtain ⟨y440, hy440⟩ : ∃ y_ : List (S73), y_ = (x5_1 ++ [(⟨(rd_T41 y429 x20_1).f1, (-1)⟩ : S73)]) := ⟨_, rfl⟩
          replace H : (edit_pieces.l0 k1 a0 y440 ((rd_T41 y429 x20_1).f0.f1) y429 (y429.length : Int) (wrap64 (x20_1 + 1))) = some r := by first | (rw [hy440]; with_reducible exact H) | (have H2_ := (Option.bind_some _ _).symm.trans H; rw [hy440]; with_reducible exact H2_) | (have H2_ := (Option.bind_some _ _).symm.trans H; with_reducible exact H2_) | with_reducible exact H | (rw [hy440]; exact H) | exact H
          have Ny440 := Aside0.mk hy440
          clear hy440
          have H' := Aside0.mk H
          clear H
          have p432 : 0 ≤ (x20_1 : Int) := pxd
          have q432 : x20_1 < (y429.length : Int) := pxd
          obtain ⟨ad432, e432, hx432_0, hx432_1, hx432_2⟩ := at_T41 (Kd.R_reads' HO_18.out).2.2 x20_1 p432 q432
          cases e432
          replace p432 := eq_true p432
          replace q432 := eq_true q432
          go_wp2_with (first | ((with_reducible refine gate_dst (N := 8) rfl ?_); refine box_event ?hg (N := 8) ?hd (cs := #[.int .i64 0, .int .i64 0, .string (⟨#[]⟩ : ByteArray)]) (t := 41) ?hr ?_; (case hd => rfl); (case hg => rfl); (case hr => first | (go_simp; done) | (go_simp; rfl)); intro gb433 hg w32 hbox hb; have BK433 := Aside0.mk (hbox); have GW433 := pxw HB hg; have GE433 := pxw HB hg; replace HO_5 := Aside0.mk (Kd.R_below (pxr HO_5) hb); replace HO_18 := Aside0.mk (Kd.R_below (Kd.R_elderB (pxr HO_18) gb433 (Nat.le_of_eq hg.symm)) hb); replace HB := pxs HB hb; clear hb hbox hg; obtain ⟨hcz33_0, hcz33_1, hcz33_2, hfz33_0, hfz33_1, hfz33_2⟩ := pxf3 BK433) | ((with_reducible refine gate_builtin (b := .append) (xs := #[.tmp 43, .tmp 47]) rfl ?_); at_builtin; refine Kd.R_append k73 (w0 := w) w.heap.size rfl (.tmp 43) (.tmp 47) 68 73 (.agg #[(.string ⟨#[]⟩), (.int .i64 0)]) 24 rfl Try.underlying68 info73 rfl (by decide) (by omega) u5 x5_1 (⟨(rd_T41 y429 x20_1).f1, (-1)⟩ : S73) [.string ((rd_T41 y429 x20_1).f1), .int .i64 (-1)] (fun _ => True) (fun _ => False) rfl (by first | (go_simp; done) | (go_simp; rfl)) ?aP (fun _ hk => hk.elim) ?aF ?aO ?aB ?aS ?aL ?_; (case aP => exact k73_mkM _ _ _ (⟨(rd_T41 y429 x20_1).f1, (-1)⟩ : S73)); (case aB => exact (pxb HB)); (case aF => exact (fun _ _ => trivial)); (case aO => exact (by (with_reducible repeat (first | apply Kd.R_alloc | apply Kd.R_drewN | apply Kd.R_drew)); exact Kd.R_mono (Kd.R_far (p := ⟨gb433, 2, none⟩) (Kd.R_far (p := ⟨gb433, 1, none⟩) (Kd.R_far (p := ⟨gb433, 0, none⟩) (Kd.R_types HO_5.out BK433.out (by decide)) (fun _ hk => hk.2) (.int .i64 ((rd_T41 y429 x20_1).f0.f0))) (fun _ hk => hk.2) (.int .i64 ((rd_T41 y429 x20_1).f0.f1))) (fun _ hk => hk.2) (.string ((rd_T41 y429 x20_1).f1))) (fun _ hk => trivial))); (case aS => exact (below_size (pxb HB))); (case aL => have := LMc31.out; omega); intro v441 w34 ho hb hg hat; rw [← Ny440.out] at ho; have n0_ := Aside0.mk (Kd.R_over' (by (with_reducible repeat (first | apply Kd.R_alloc | apply Kd.R_drewN | apply Kd.R_drew)); exact (Kd.R_mono (Kd.R_far (p := ⟨gb433, 2, none⟩) (Kd.R_far (p := ⟨gb433, 1, none⟩) (Kd.R_far (p := ⟨gb433, 0, none⟩) (Kd.R_mono HO_18.out (fun k_ hk => (⟨hk, hk.2⟩ : _ ∧ k_ ≠ gb433))) (fun _ hk => hk.2) (.int .i64 ((rd_T41 y429 x20_1).f0.f0))) (fun _ hk => hk.2) (.int .i64 ((rd_T41 y429 x20_1).f0.f1))) (fun _ hk => hk.2) (.string ((rd_T41 y429 x20_1).f1))) (fun _ h_ => h_.1))) (Kd.R_typed (by (with_reducible repeat (first | apply Kd.R_alloc | apply Kd.R_drewN | apply Kd.R_drew)); exact (Kd.R_mono (Kd.R_far (p := ⟨gb433, 2, none⟩) (Kd.R_far (p := ⟨gb433, 1, none⟩) (Kd.R_far (p := ⟨gb433, 0, none⟩) (Kd.R_types HO_5.out BK433.out (by decide)) (fun _ hk => hk.2) (.int .i64 ((rd_T41 y429 x20_1).f0.f0))) (fun _ hk => hk.2) (.int .i64 ((rd_T41 y429 x20_1).f0.f1))) (fun _ hk => hk.2) (.string ((rd_T41 y429 x20_1).f1))) (fun _ h_ => h_.1)))) (by decide) hg); have n1_ := Aside0.mk (blk_grown (g := gb433) (o := .cells #[.int .i64 ((rd_T41 y429 x20_1).f0.f0), .int .i64 ((rd_T41 y429 x20_1).f0.f1), .string ((rd_T41 y429 x20_1).f1)] 41 (0, 0)) (pxp BK433) hg (Kd.R_ne HO_5.out BK433.out (by decide))); have n2_ := Aside0.mk (hb); have n3_ := Aside0.mk (ho); clear HO_18; clear BK433; clear HB; clear HO_5; have HO_18 := n0_; have BK433 := n1_; have HB := n2_; have HO442 := n3_; clear n0_ n1_ n2_ n3_; clear ho hb hg hat; obtain ⟨hcz35_0, hcz35_1, hcz35_2, hfz35_0, hfz35_1, hfz35_2⟩ := pxf3 BK433))
          go_roundg k1
          case measure => have := HK1.out; omega
          case rel => exact ⟨(y440), ((rd_T41 y429 x20_1).f0.f1), (wrap64 (x20_1 + 1)), (by first | rfl | (simp; done) | (simp [*]; done)), (by first | rfl | (simp; done) | (simp [*]; done)), H', ⟨by have := HK1.out; omega⟩, ⟨pxr HO442⟩, ⟨by (with_reducible repeat (first | apply Kd.R_alloc | apply Kd.R_drewN | apply Kd.R_drew)); exact Kd.R_mono HO_18.out (fun _ hk => trivial)⟩, ⟨pxb HB⟩⟩
         ·rw [if_neg c31] at H
          exact absurd H (by simp)
      ·rw [if_neg c10] at H
       exact absurd H (by simp)
     ·rw [if_neg c9] at H
      exact absurd H (by simp)
    ·rw [if_neg c8] at H
     have c8b0 : decide (x20_1 < (y429.length : Int)) = false := decide_eq_false c8
     clear c8
     obtain rfl := Option.some.inj H
     go_wp2
     go_ret
     exact ⟨_, by first | rfl | (simp [errW_none, errW_some] <;> rfl) | (simp [*, errW_none, errW_some] <;> rfl) | (simp [*, pxbeq, pxbne, errW_none, errW_some]; done), pxr HO_5, pxb HB⟩
 ·rw [if_neg c4] at H
  exact absurd H (by simp)

end Go.Proofs.Ytoljmjhmieaggaa.X
