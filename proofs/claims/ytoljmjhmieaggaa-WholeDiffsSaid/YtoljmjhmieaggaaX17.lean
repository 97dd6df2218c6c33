/- What the program's functions answer, as Lean functions, and that each call does just that; no condition. Written by a program (px.py) out of the translation. -/
import Derived.Test.YtoljmjhmieaggaaM2
import Derived.Test.YtoljmjhmieaggaaX29
import Derived.Test.YtoljmjhmieaggaaX19
import Derived.Test.YtoljmjhmieaggaaX30
import Derived.Test.YtoljmjhmieaggaaShort2
namespace Go.Proofs.Ytoljmjhmieaggaa.X
open Go.RowKit Go.Proofs.YtoljmjhmieaggaaW.PrintWords Go.Proofs.YtoljmjhmieaggaaW.PrintLast Go.Proofs.YtoljmjhmieaggaaW.PrintMore
attribute [local go_sem] max2_int min2_int max_two min_two max_three min_three max_four min_four   -- for this text's walks alone
set_option linter.unusedVariables false
set_option linter.unusedSimpArgs false

/-! ### diff_Kept: function 17 -/
def diff_Kept.l0 : Nat → ByteArray → List (S39) → List (S41) → Int → Int → Option ((List (S39)) × Int)
 | 0, _, _, _, _, _ => none
 | k + 1, x0, x7, x17, x18, x19 => if x19 < x18 then (if 0 ≤ x19 then (if x19 < (x17.length : Int) then ((span_Len.f k ((rd_T41 x17 x19).f0.f0) ((rd_T41 x17 x19).f0.f1)).bind fun t241 => (if t241 > 0 then (if x7.length < 8796093022208 then (diff_Kept.l0 k x0 (x7 ++ [(⟨(rd_T41 x17 x19).f0.f0, (rd_T41 x17 x19).f0.f1⟩ : S39)]) x17 x18 (wrap64 (x19 + 1))) else (none)) else (diff_Kept.l0 k x0 x7 x17 x18 (wrap64 (x19 + 1))))) else (none)) else (none)) else ((span_Gaps.f k (x0.size : Int) x7).bind fun bt245 => (some (bt245.1, bt245.2)))
def diff_Kept.f (k : Nat) (a0 : ByteArray) (l1 : List (S41)) : Option ((List (S39)) × Int) := (edit_Check.f k (a0.size : Int) l1).bind fun t238 => (if t238 = 0 then (diff_Kept.l0 k a0 ([] : List (S39)) l1 (l1.length : Int) 0) else (some (([] : List (S39)), t238)))
theorem diff_Kept.mono_l : ∀ k, (∀ y0 y1 y2 y3 y4, LeO (diff_Kept.l0 k y0 y1 y2 y3 y4) (diff_Kept.l0 (k + 1) y0 y1 y2 y3 y4))
 | 0 => fun _ _ _ _ _ r h => by simp [diff_Kept.l0] at h
 | k + 1 => by
  have ih0 := diff_Kept.mono_l k
  ·intro y0 y1 y2 y3 y4
   unfold diff_Kept.l0
   repeat' first
   | (with_reducible exact ih0 _ _ _ _ _)
   | (with_reducible exact edit_Check.mono _ _ _)
   | (with_reducible exact span_Gaps.mono _ _ _)
   | (with_reducible exact span_Len.mono _ _ _)
   | (with_reducible exact LeO.refl _)
   | (with_reducible exact LeO.none _)
   | (with_reducible refine LeO.ite ?_ ?_)
   | (with_reducible refine LeO.bind ?_ (fun _ => ?_))
   | exact ih0 _ _ _ _ _
   | exact edit_Check.mono _ _ _
   | exact span_Gaps.mono _ _ _
   | exact span_Len.mono _ _ _
   | exact LeO.none _
   | refine LeO.ite ?_ ?_
   | refine LeO.bind ?_ (fun _ => ?_)
theorem diff_Kept.mono : ∀ a0 a1 k, LeO (diff_Kept.f k a0 a1) (diff_Kept.f (k + 1) a0 a1) := by
 intro a0 a1 k
 have ih0 := diff_Kept.mono_l k
 unfold diff_Kept.f
 repeat' first
   | (with_reducible exact ih0 _ _ _ _ _)
   | (with_reducible exact edit_Check.mono _ _ _)
   | (with_reducible exact span_Gaps.mono _ _ _)
   | (with_reducible exact span_Len.mono _ _ _)
   | (with_reducible exact LeO.refl _)
   | (with_reducible exact LeO.none _)
   | (with_reducible refine LeO.ite ?_ ?_)
   | (with_reducible refine LeO.bind ?_ (fun _ => ?_))
   | exact ih0 _ _ _ _ _
   | exact edit_Check.mono _ _ _
   | exact span_Gaps.mono _ _ _
   | exact span_Len.mono _ _ _
   | exact LeO.none _
   | refine LeO.ite ?_ ?_
   | refine LeO.bind ?_ (fun _ => ?_)
set_option maxHeartbeats 8000000 in
set_option maxRecDepth 100000 in
theorem diff_Kept.calls (k : Nat) (a0 : ByteArray) (A1 : Option Addr) (c1 : Nat) (l1 : List (S41)) (r1 : List (S39)) (r2 : Int) (w : World) (hr1 : Kd.C k41 w A1 l1.length l1) (hc1 : l1.length ≤ c1) (h : diff_Kept.f k a0 l1 = some (r1, r2)) :
  Calls Try.prog 17 #[.string a0, .slice A1 l1.length c1] w fun e w' => ∃ v0_ : Value, e = .returned (.tuple #[v0_, .int .i64 r2]) ∧ Kd.R k39 39 w' w.heap.size (fun _ => True) v0_ r1 ∧ Below w.heap.size w w' := by
 have hu41 := Try.underlying41
 have hu39 := Try.underlying39
 have HR1 := Aside0.mk hr1
 have HC1 := Aside0.mk hc1
 clear hr1 hc1
 have HB := Aside0.mk (Below.refl w.heap.size w)
 have H : ((edit_Check.f k (a0.size : Int) l1).bind fun t238 => (if t238 = 0 then (diff_Kept.l0 k a0 ([] : List (S39)) l1 (l1.length : Int) 0) else (some (([] : List (S39)), t238)))) = some (r1, r2) := h
 clear h
 replace H := Option.bind_eq_some_iff.mp H
 obtain ⟨t238, A30, H⟩ := H
 replace H : (if t238 = 0 then (diff_Kept.l0 k a0 ([] : List (S39)) l1 (l1.length : Int) 0) else (some (([] : List (S39)), t238))) = some (r1, r2) := H
 have A3 := Aside0.mk A30
 clear A30
 by_cases c4 : t238 = 0
 ·rw [if_pos c4] at H
  have c4b0 : (t238 == 0) = true := beq_iff_eq.mpr c4
  have c4b1 : (t238 != 0) = false := bne_eq_false_iff_eq.mpr c4
  clear c4
  have H' := Aside0.mk H
  clear H
  go_enter Try.func17, Try.ntmps17
  go_wp2_with (first | ((with_reducible refine gate_callee (f := 19) rfl ?_); refine goesL_ (some 13) rfl rfl Try.func19 (by kernel_rfl) rfl #[.int .i64 (a0.size : Int), .slice A1 l1.length c1] rfl (by (try simp only [List.map_toArray, List.map_cons, List.map_nil]); first | done | rfl | (simp only [List.length_drop, List.length_take]; rfl)) ?_; (with_reducible refine (edit_Check.calls k (a0.size : Int) _ _ l1 t238 _ ?side1 ?side2 A3.out).mono ?_); (case side1 => repeat (first | exact HR1.out | (with_reducible refine Kd.C_alloc ?_ _) | (with_reducible refine Kd.C_drewN ?_ _) | (with_reducible refine Kd.C_drew ?_))); (case side2 => exact HC1.out); rintro e w5 ⟨rfl, hb⟩; refine ⟨_, rfl, ?_⟩; replace HB := pxs HB hb; (try clear hb); (try clear hb2); (try clear hk); (try clear hi)))
  go_loopg [7, 19] k (fun kq v7 v19 w' => ∃ (x7_1 : List (S39)) (x19_1 : Int), v19 = .int .i64 x19_1 ∧ Aside0 (diff_Kept.l0 kq a0 x7_1 l1 (l1.length : Int) x19_1 = some (r1, r2)) ∧ Aside0 (kq ≤ k) ∧ Aside0 (Kd.R k39 39 w' w.heap.size (fun _ => True) v7 x7_1) ∧ Aside0 (Below w.heap.size w w'))
  case atStart => exact ⟨(([] : List (S39))), (0), (by first | rfl | (simp; done) | (simp [*]; done)), H', ⟨Nat.le_refl _⟩, ⟨by first | exact Kd.R_nil _ _ _ _ _ | exact Kd.N_nil _ _ _ _ _ | exact Kd.V_nil _ _ _ _ _ | exact Kd.Q_nil _ _ _ _ _ | exact Kd.S_nil _ _ _ _ _⟩, ⟨pxb HB⟩⟩
  case round =>
   clear H'
   (try clear c1); (try clear p2); (try clear c4); (try clear c4b0); (try clear c4b1)
   obtain ⟨x7_1, x19_1, rfl, HA, HK1, HO_7, HB⟩ := hrel
   cases gk with
   | zero => exact absurd HA.out (by simp [diff_Kept.l0])
   | succ k1 =>
    have H := HA.out
    clear HA
    simp only [diff_Kept.l0] at H
    by_cases c6 : x19_1 < (l1.length : Int)
    ·rw [if_pos c6] at H
     have c6b0 : decide (x19_1 < (l1.length : Int)) = true := decide_eq_true c6
     clear c6
     by_cases c7 : 0 ≤ x19_1
     ·rw [if_pos c7] at H
      have c7b0 : decide (0 ≤ x19_1) = true := decide_eq_true c7
      clear c7
      by_cases c8 : x19_1 < (l1.length : Int)
      ·rw [if_pos c8] at H
       have c8b0 : decide (x19_1 < (l1.length : Int)) = true := decide_eq_true c8
       clear c8
       replace H := Option.bind_eq_some_iff.mp H
       obtain ⟨t241, A90, H⟩ := H
       replace H : (if t241 > 0 then (if x7_1.length < 8796093022208 then (diff_Kept.l0 k1 a0 (x7_1 ++ [(⟨(rd_T41 l1 x19_1).f0.f0, (rd_T41 l1 x19_1).f0.f1⟩ : S39)]) l1 (l1.length : Int) (wrap64 (x19_1 + 1))) else (none)) else (diff_Kept.l0 k1 a0 x7_1 l1 (l1.length : Int) (wrap64 (x19_1 + 1)))) = some (r1, r2) := H
       have A9 := Aside0.mk A90
       clear A90
       by_cases c10 : t241 > 0
       ·rw [if_pos c10] at H
        have c10b0 : decide (0 < t241) = true := decide_eq_true c10
        clear c10
        by_cases c11 : x7_1.length < 8796093022208
        ·rw [if_pos c11] at H
         have LMc11 := Aside0.mk c11
         clear c11
         obtain ⟨y242, hy242⟩ : ∃ y_ : List (S39), y_ = (x7_1 ++ [(⟨(rd_T41 l1 x19_1).f0.f0, (rd_T41 l1 x19_1).f0.f1⟩ : S39)]) := ⟨_, rfl⟩
         replace H : (diff_Kept.l0 k1 a0 y242 l1 (l1.length : Int) (wrap64 (x19_1 + 1))) = some (r1, r2) := by first | (rw [hy242]; with_reducible exact H) | (have H2_ := (Option.bind_some _ _).symm.trans H; rw [hy242]; with_reducible exact H2_) | (have H2_ := (Option.bind_some _ _).symm.trans H; with_reducible exact H2_) | with_reducible exact H | (rw [hy242]; exact H) | exact H
         have Ny242 := Aside0.mk hy242
         clear hy242
         have H' := Aside0.mk H
         clear H
         have p239 : 0 ≤ (x19_1 : Int) := pxd
         have q239 : x19_1 < (l1.length : Int) := pxd
         obtain ⟨ad239, e239, hx239_0, hx239_1, hx239_2⟩ := at_T41 HR1.out x19_1 p239 q239
         cases e239
         replace hx239_0 := (HB.out.cell (World.block_lt_of_cell? w _ hx239_0)).trans hx239_0
         replace hx239_1 := (HB.out.cell (World.block_lt_of_cell? w _ hx239_1)).trans hx239_1
         replace hx239_2 := (HB.out.cell (World.block_lt_of_cell? w _ hx239_2)).trans hx239_2
         replace p239 := eq_true p239
         replace q239 := eq_true q239
         go_wp2_with (first | ((with_reducible refine gate_dst (N := 9) rfl ?_); refine box_event ?hg (N := 9) ?hd (cs := #[.int .i64 0, .int .i64 0, .string (⟨#[]⟩ : ByteArray)]) (t := 41) ?hr ?_; (case hd => rfl); (case hg => rfl); (case hr => first | (go_simp; done) | (go_simp; rfl)); intro gb240 hg w12 hbox hb; have BK240 := Aside0.mk (hbox); have GW240 := pxw HB hg; have GE240 := pxw HB hg; replace HO_7 := Aside0.mk (Kd.R_below (pxr HO_7) hb); replace HB := pxs HB hb; clear hb hbox hg; obtain ⟨hcz13_0, hcz13_1, hcz13_2, hfz13_0, hfz13_1, hfz13_2⟩ := pxf3 BK240) | ((with_reducible refine gate_callee (f := 29) rfl ?_); refine goesL_ (some 25) rfl rfl Try.func29 (by kernel_rfl) rfl #[.agg #[.int .i64 ((rd_T41 l1 x19_1).f0.f0), .int .i64 ((rd_T41 l1 x19_1).f0.f1)]] rfl (by (try simp only [List.map_toArray, List.map_cons, List.map_nil]); first | done | rfl | (simp only [List.length_drop, List.length_take]; rfl)) ?_; (with_reducible refine (span_Len.calls k1 ((rd_T41 l1 x19_1).f0.f0) ((rd_T41 l1 x19_1).f0.f1) t241 _ A9.out).mono ?_); rintro e w14 ⟨rfl, hb⟩; refine ⟨_, rfl, ?_⟩; replace HO_7 := Aside0.mk (Kd.R_below (by (with_reducible repeat (first | apply Kd.R_alloc | apply Kd.R_drewN | apply Kd.R_drew)); exact (Kd.R_mono (Kd.R_far (p := ⟨gb240, 2, none⟩) (Kd.R_far (p := ⟨gb240, 1, none⟩) (Kd.R_far (p := ⟨gb240, 0, none⟩) (Kd.R_types HO_7.out BK240.out (by decide)) (fun _ hk => hk.2) (.int .i64 ((rd_T41 l1 x19_1).f0.f0))) (fun _ hk => hk.2) (.int .i64 ((rd_T41 l1 x19_1).f0.f1))) (fun _ hk => hk.2) (.string ((rd_T41 l1 x19_1).f1))) (fun _ h_ => h_.1))) hb); replace BK240 := Aside0.mk (blk_below (g := gb240) (o := .cells #[.int .i64 ((rd_T41 l1 x19_1).f0.f0), .int .i64 ((rd_T41 l1 x19_1).f0.f1), .string ((rd_T41 l1 x19_1).f1)] 41 (0, 0)) (pxp BK240) hb); replace HB := pxs HB hb; (try clear hb); (try clear hb2); (try clear hk); (try clear hi); obtain ⟨hcz15_0, hcz15_1, hcz15_2, hfz15_0, hfz15_1, hfz15_2⟩ := pxf3 BK240) | ((with_reducible refine gate_builtin (b := .append) (xs := #[.tmp 27, .tmp 30]) rfl ?_); at_builtin; refine Kd.R_append k39 (w0 := w) w.heap.size rfl (.tmp 27) (.tmp 30) 43 39 (.agg #[(.int .i64 0), (.int .i64 0)]) 16 rfl Try.underlying43 info39 rfl (by decide) (by omega) u7 x7_1 (⟨(rd_T41 l1 x19_1).f0.f0, (rd_T41 l1 x19_1).f0.f1⟩ : S39) [.int .i64 ((rd_T41 l1 x19_1).f0.f0), .int .i64 ((rd_T41 l1 x19_1).f0.f1)] (fun _ => True) (fun _ => False) rfl rfl ?aP (fun _ hk => hk.elim) ?aF ?aO ?aB ?aS ?aL ?_; (case aP => exact k39_mkM _ _ _ (⟨(rd_T41 l1 x19_1).f0.f0, (rd_T41 l1 x19_1).f0.f1⟩ : S39)); (case aB => exact (pxb HB)); (case aF => exact (fun _ _ => trivial)); (case aO => exact (pxr HO_7)); (case aS => exact (below_size (pxb HB))); (case aL => have := LMc11.out; omega); intro v243 w16 ho hb hg hat; rw [← Ny242.out] at ho; have n0_ := Aside0.mk (blk_grown (g := gb240) (o := .cells #[.int .i64 ((rd_T41 l1 x19_1).f0.f0), .int .i64 ((rd_T41 l1 x19_1).f0.f1), .string ((rd_T41 l1 x19_1).f1)] 41 (0, 0)) (pxq BK240) hg (Kd.R_ne HO_7.out BK240.out (by decide))); have n1_ := Aside0.mk (hb); have n2_ := Aside0.mk (ho); clear BK240; clear HB; clear HO_7; have BK240 := n0_; have HB := n1_; have HO244 := n2_; clear n0_ n1_ n2_; clear ho hb hg hat))
         go_roundg k1
         case measure => have := HK1.out; omega
         case rel => exact ⟨(y242), (wrap64 (x19_1 + 1)), (by first | rfl | (simp; done) | (simp [*]; done)), H', ⟨by have := HK1.out; omega⟩, ⟨pxr HO244⟩, ⟨pxb HB⟩⟩
        ·rw [if_neg c11] at H
         exact absurd H (by simp)
       ·rw [if_neg c10] at H
        have c10b0 : decide (0 < t241) = false := decide_eq_false c10
        clear c10
        have H' := Aside0.mk H
        clear H
        have p239 : 0 ≤ (x19_1 : Int) := pxd
        have q239 : x19_1 < (l1.length : Int) := pxd
        obtain ⟨ad239, e239, hx239_0, hx239_1, hx239_2⟩ := at_T41 HR1.out x19_1 p239 q239
        cases e239
        replace hx239_0 := (HB.out.cell (World.block_lt_of_cell? w _ hx239_0)).trans hx239_0
        replace hx239_1 := (HB.out.cell (World.block_lt_of_cell? w _ hx239_1)).trans hx239_1
        replace hx239_2 := (HB.out.cell (World.block_lt_of_cell? w _ hx239_2)).trans hx239_2
        replace p239 := eq_true p239
        replace q239 := eq_true q239
        go_wp2_with (first | ((with_reducible refine gate_dst (N := 9) rfl ?_); refine box_event ?hg (N := 9) ?hd (cs := #[.int .i64 0, .int .i64 0, .string (⟨#[]⟩ : ByteArray)]) (t := 41) ?hr ?_; (case hd => rfl); (case hg => rfl); (case hr => first | (go_simp; done) | (go_simp; rfl)); intro gb240 hg w17 hbox hb; have BK240 := Aside0.mk (hbox); have GW240 := pxw HB hg; have GE240 := pxw HB hg; replace HO_7 := Aside0.mk (Kd.R_below (pxr HO_7) hb); replace HB := pxs HB hb; clear hb hbox hg; obtain ⟨hcz18_0, hcz18_1, hcz18_2, hfz18_0, hfz18_1, hfz18_2⟩ := pxf3 BK240) | ((with_reducible refine gate_callee (f := 29) rfl ?_); refine goesL_ (some 25) rfl rfl Try.func29 (by kernel_rfl) rfl #[.agg #[.int .i64 ((rd_T41 l1 x19_1).f0.f0), .int .i64 ((rd_T41 l1 x19_1).f0.f1)]] rfl (by (try simp only [List.map_toArray, List.map_cons, List.map_nil]); first | done | rfl | (simp only [List.length_drop, List.length_take]; rfl)) ?_; (with_reducible refine (span_Len.calls k1 ((rd_T41 l1 x19_1).f0.f0) ((rd_T41 l1 x19_1).f0.f1) t241 _ A9.out).mono ?_); rintro e w19 ⟨rfl, hb⟩; refine ⟨_, rfl, ?_⟩; replace HO_7 := Aside0.mk (Kd.R_below (by (with_reducible repeat (first | apply Kd.R_alloc | apply Kd.R_drewN | apply Kd.R_drew)); exact (Kd.R_mono (Kd.R_far (p := ⟨gb240, 2, none⟩) (Kd.R_far (p := ⟨gb240, 1, none⟩) (Kd.R_far (p := ⟨gb240, 0, none⟩) (Kd.R_types HO_7.out BK240.out (by decide)) (fun _ hk => hk.2) (.int .i64 ((rd_T41 l1 x19_1).f0.f0))) (fun _ hk => hk.2) (.int .i64 ((rd_T41 l1 x19_1).f0.f1))) (fun _ hk => hk.2) (.string ((rd_T41 l1 x19_1).f1))) (fun _ h_ => h_.1))) hb); replace BK240 := Aside0.mk (blk_below (g := gb240) (o := .cells #[.int .i64 ((rd_T41 l1 x19_1).f0.f0), .int .i64 ((rd_T41 l1 x19_1).f0.f1), .string ((rd_T41 l1 x19_1).f1)] 41 (0, 0)) (pxp BK240) hb); replace HB := pxs HB hb; (try clear hb); (try clear hb2); (try clear hk); (try clear hi)))
        go_roundg k1
        case measure => have := HK1.out; omega
        case rel => exact ⟨(x7_1), (wrap64 (x19_1 + 1)), (by first | rfl | (simp; done) | (simp [*]; done)), H', ⟨by have := HK1.out; omega⟩, ⟨pxr HO_7⟩, ⟨pxb HB⟩⟩
      ·rw [if_neg c8] at H
       exact absurd H (by simp)
     ·rw [if_neg c7] at H
      exact absurd H (by simp)
    ·rw [if_neg c6] at H
     have c6b0 : decide (x19_1 < (l1.length : Int)) = false := decide_eq_false c6
     clear c6
     replace H := Option.bind_eq_some_iff.mp H
     obtain ⟨⟨t245, t246⟩, A200, H⟩ := H
     replace H : (some (t245, t246)) = some (r1, r2) := H
     have A20 := Aside0.mk A200
     clear A200
     simp only [Option.some.injEq, Prod.mk.injEq] at H
     obtain ⟨rfl, rfl⟩ := H
     obtain ⟨Ao21, co21, eo21⟩ := Kd.R_slice HO_7.out
     subst eo21
     go_wp2_with (first | ((with_reducible refine gate_callee (f := 30) rfl ?_); refine goesL_ (some 36) rfl rfl Try.func30 (by kernel_rfl) rfl #[.int .i64 (a0.size : Int), .slice Ao21 x7_1.length co21] rfl (by (try simp only [List.map_toArray, List.map_cons, List.map_nil]); first | done | rfl | (simp only [List.length_drop, List.length_take]; rfl)) ?_; (with_reducible refine (span_Gaps.calls k1 (a0.size : Int) _ _ x7_1 t245 t246 _ ?side1 ?side2 A20.out).mono ?_); (case side1 => repeat (first | exact (Kd.R_reads' HO_7.out).2.2 | (with_reducible refine Kd.C_alloc ?_ _) | (with_reducible refine Kd.C_drewN ?_ _) | (with_reducible refine Kd.C_drew ?_))); (case side2 => exact (Kd.R_reads' HO_7.out).2.1); rintro e w22 ⟨v247, rfl, ho0, hb⟩; refine ⟨_, rfl, ?_⟩; have HO248 := Aside0.mk (Kd.R_lower (Kd.R_new' ho0 (Kd.R_lt (pxr HO_7))) (below_size (pxb HB))); replace HO_7 := Aside0.mk (Kd.R_elder' (pxr HO_7) (Kd.R_base ho0) hb); replace HB := pxs HB hb; (try clear hb); (try clear hb2); (try clear hk); (try clear hi); (try clear ho0)))
     go_ret2
     exact ⟨_, by first | rfl | (simp [errW_none, errW_some] <;> rfl) | (simp [*, errW_none, errW_some] <;> rfl), by (with_reducible repeat (first | apply Kd.R_alloc | apply Kd.R_drewN | apply Kd.R_drew)); exact Kd.R_mono HO248.out (fun _ hk => trivial), pxb HB⟩
 ·rw [if_neg c4] at H
  have c4b0 : (t238 == 0) = false := beq_eq_false_iff_ne.mpr c4
  have c4b1 : (t238 != 0) = true := bne_iff_ne.mpr c4
  simp only [Option.some.injEq, Prod.mk.injEq] at H
  obtain ⟨rfl, rfl⟩ := H
  go_enter Try.func17, Try.ntmps17
  go_wp2_with (first | ((with_reducible refine gate_callee (f := 19) rfl ?_); refine goesL_ (some 13) rfl rfl Try.func19 (by kernel_rfl) rfl #[.int .i64 (a0.size : Int), .slice A1 l1.length c1] rfl (by (try simp only [List.map_toArray, List.map_cons, List.map_nil]); first | done | rfl | (simp only [List.length_drop, List.length_take]; rfl)) ?_; (with_reducible refine (edit_Check.calls k (a0.size : Int) _ _ l1 t238 _ ?side1 ?side2 A3.out).mono ?_); (case side1 => repeat (first | exact HR1.out | (with_reducible refine Kd.C_alloc ?_ _) | (with_reducible refine Kd.C_drewN ?_ _) | (with_reducible refine Kd.C_drew ?_))); (case side2 => exact HC1.out); rintro e w23 ⟨rfl, hb⟩; refine ⟨_, rfl, ?_⟩; replace HB := pxs HB hb; (try clear hb); (try clear hb2); (try clear hk); (try clear hi)))
  go_ret2
  exact ⟨_, by first | rfl | (simp [errW_none, errW_some] <;> rfl) | (simp [*, errW_none, errW_some] <;> rfl), by first | exact Kd.R_nil _ _ _ _ _ | exact Kd.N_nil _ _ _ _ _ | exact Kd.V_nil _ _ _ _ _ | exact Kd.Q_nil _ _ _ _ _ | exact Kd.S_nil _ _ _ _ _, pxb HB⟩

end Go.Proofs.Ytoljmjhmieaggaa.X
