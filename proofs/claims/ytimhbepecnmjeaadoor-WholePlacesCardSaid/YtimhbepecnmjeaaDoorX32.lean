/- What the program's functions answer, as Lean functions, and that each call does just that; no condition. Written by a program (px.py) out of the translation. -/
import Derived.Test.YtimhbepecnmjeaaDoorX0
import Derived.Test.YtimhbepecnmjeaaDoorX30
import Derived.Test.YtimhbepecnmjeaaDoorX41
import Derived.Test.YtimhbepecnmjeaaDoorShort3
namespace Go.Proofs.YtimhbepecnmjeaaDoor.X
open Go.RowKit Go.Proofs.YtimhbepecnmjeaaDoorW.PrintWords Go.Proofs.YtimhbepecnmjeaaDoorW.PrintLast Go.Proofs.YtimhbepecnmjeaaDoorW.PrintMore
attribute [local go_sem] max2_int min2_int max_two min_two max_three min_three max_four min_four   -- for this text's walks alone
set_option linter.unusedVariables false
set_option linter.unusedSimpArgs false

/-! ### span_Sorted: function 32 -/
def span_Sorted.l0 : Nat → List (S24) → List (S24) → Int → Int → Option (Bool)
 | 0, _, _, _, _ => none
 | k + 1, x0, x5, x6, x7 => if x7 < x6 then (if 0 ≤ x7 then (if x7 < (x5.length : Int) then ((span_right.f k (([(⟨(rd_T24 x5 x7).f0, (rd_T24 x5 x7).f1⟩ : S24)] : List (S24)))).bind fun t174 => (if t174 = true then (if x7 > 0 then (if 0 ≤ (wrap64 (x7 - 1)) then (if (wrap64 (x7 - 1)) < (x0.length : Int) then (if ((rd_T24 x0 (wrap64 (x7 - 1))).f1) > ((rd_T24 x5 x7).f0) then (some false) else ((span_Apart.f k ((rd_T24 x0 (wrap64 (x7 - 1))).f0) ((rd_T24 x0 (wrap64 (x7 - 1))).f1) ((rd_T24 x5 x7).f0) ((rd_T24 x5 x7).f1)).bind fun t177 => (if t177 = true then (span_Sorted.l0 k x0 x5 x6 (wrap64 (x7 + 1))) else (some false)))) else (none)) else (none)) else (span_Sorted.l0 k x0 x5 x6 (wrap64 (x7 + 1)))) else (some false))) else (none)) else (none)) else (some true)
def span_Sorted.f (k : Nat) (l0 : List (S24)) : Option (Bool) := span_Sorted.l0 k l0 l0 (l0.length : Int) 0
theorem span_Sorted.mono_l : ∀ k, (∀ y0 y1 y2 y3, LeO (span_Sorted.l0 k y0 y1 y2 y3) (span_Sorted.l0 (k + 1) y0 y1 y2 y3))
 | 0 => fun _ _ _ _ r h => by simp [span_Sorted.l0] at h
 | k + 1 => by
  have ih0 := span_Sorted.mono_l k
  ·intro y0 y1 y2 y3
   unfold span_Sorted.l0
   repeat' first
   | (with_reducible exact ih0 _ _ _ _)
   | (with_reducible exact span_Apart.mono _ _ _ _ _)
   | (with_reducible exact span_right.mono _ _)
   | (with_reducible exact LeO.refl _)
   | (with_reducible exact LeO.none _)
   | (with_reducible refine LeO.ite ?_ ?_)
   | (with_reducible refine LeO.bind ?_ (fun _ => ?_))
   | exact ih0 _ _ _ _
   | exact span_Apart.mono _ _ _ _ _
   | exact span_right.mono _ _
   | exact LeO.none _
   | refine LeO.ite ?_ ?_
   | refine LeO.bind ?_ (fun _ => ?_)
theorem span_Sorted.mono : ∀ a0 k, LeO (span_Sorted.f k a0) (span_Sorted.f (k + 1) a0) := by
 intro a0 k
 have ih0 := span_Sorted.mono_l k
 unfold span_Sorted.f
 repeat' first
   | (with_reducible exact ih0 _ _ _ _)
   | (with_reducible exact span_Apart.mono _ _ _ _ _)
   | (with_reducible exact span_right.mono _ _)
   | (with_reducible exact LeO.refl _)
   | (with_reducible exact LeO.none _)
   | (with_reducible refine LeO.ite ?_ ?_)
   | (with_reducible refine LeO.bind ?_ (fun _ => ?_))
   | exact ih0 _ _ _ _
   | exact span_Apart.mono _ _ _ _ _
   | exact span_right.mono _ _
   | exact LeO.none _
   | refine LeO.ite ?_ ?_
   | refine LeO.bind ?_ (fun _ => ?_)
def span_Sorted.T4 : Bool × List (List Nat × List Nat) := (true, [([], []), ([0], [0]), ([1], [1]), ([2], [2]), ([3, 2], [3]), ([4], [4]), ([5, 4], [4, 5]), ([6, 4, 4], [4, 6]), ([7], [7]), ([7], [7]), ([9, 7], [7, 9]), ([8, 10, 7], [7, 8, 10]), ([11, 7], [7, 11]), ([12, 7], [7, 12]), ([7], [7]), ([14, 7], [7, 14]), ([13, 15, 7], [7, 13, 15]), ([16, 7, 7], [7, 16]), ([17], [17]), ([17], [17]), ([19, 17], [17, 19]), ([18, 20, 17], [17, 18, 20]), ([21, 17], [17, 21]), ([17], [17]), ([22, 23, 17, 17], [17, 22, 23]), ([24, 17], [17, 24]), ([17, 25, 7], [7, 17, 25]), ([7, 26, 4], [4, 7, 26]), ([4, 27], [4, 27])])
def span_Sorted.B4 : List Nat := [0, 1, 3, 7, 15, 31, 63, 127, 255, 255, 767, 2047, 4095, 8191, 255, 16639, 65535, 131071, 262143, 262143, 786431, 2097151, 4194303, 262143, 16777215, 33554431, 67108863, 134217727, 268435455]
theorem span_Sorted.tab4 : rtab .any (opsOf Tryd.f32 4) = span_Sorted.T4 := by kernel_rfl
theorem span_Sorted.bits4 : waitsOk span_Sorted.T4.2 span_Sorted.B4 = true := by kernel_rfl
set_option maxHeartbeats 8000000 in
set_option maxRecDepth 100000 in
theorem span_Sorted.calls (k : Nat) (A0 : Option Addr) (c0 : Nat) (l0 : List (S24)) (r : Bool) (w : World) (hr0 : Kd.C k24 w A0 l0.length l0) (hc0 : l0.length ≤ c0) (h : span_Sorted.f k l0 = some r) :
  Calls Tryd.prog 32 #[.slice A0 l0.length c0] w fun e w' => e = .returned (.bool r) ∧ Below w.heap.size w w' := by
 have hu24 := Tryd.underlying24
 have HR0 := Aside0.mk hr0
 have HC0 := Aside0.mk hc0
 clear hr0 hc0
 have HB := Aside0.mk (Below.refl w.heap.size w)
 have H : (span_Sorted.l0 k l0 l0 (l0.length : Int) 0) = some r := h
 clear h
 have H' := Aside0.mk H
 clear H
 go_enter Tryd.func32, Tryd.ntmps32
 go_wp2
 go_loopg [7] k (fun kq v7 w' => ∃ (x7_1 : Int), v7 = .int .i64 x7_1 ∧ Aside0 (span_Sorted.l0 kq l0 l0 (l0.length : Int) x7_1 = some r) ∧ Aside0 (kq ≤ k) ∧ Aside0 (Below w.heap.size w w'))
 case atStart => exact ⟨(0), (by first | rfl | (simp; done) | (simp [*]; done)), H', ⟨Nat.le_refl _⟩, ⟨pxb HB⟩⟩
 case round =>
  clear H'
  obtain ⟨x7_1, rfl, HA, HK1, HB⟩ := hrel
  cases gk with
  | zero => exact absurd HA.out (by simp [span_Sorted.l0])
  | succ k1 =>
   have H := HA.out
   clear HA
   simp only [span_Sorted.l0] at H
   by_cases c2 : x7_1 < (l0.length : Int)
   ·rw [if_pos c2] at H
    have c2b0 : decide (x7_1 < (l0.length : Int)) = true := decide_eq_true c2
    clear c2
    by_cases c3 : 0 ≤ x7_1
    ·rw [if_pos c3] at H
     have c3b0 : decide (0 ≤ x7_1) = true := decide_eq_true c3
     clear c3
     by_cases c4 : x7_1 < (l0.length : Int)
     ·rw [if_pos c4] at H
      have c4b0 : decide (x7_1 < (l0.length : Int)) = true := decide_eq_true c4
      clear c4
      obtain ⟨y171, hy171⟩ : ∃ y_ : List (S24), y_ = (([(⟨(rd_T24 l0 x7_1).f0, (rd_T24 l0 x7_1).f1⟩ : S24)] : List (S24))) := ⟨_, rfl⟩
      replace H : ((span_right.f k1 y171).bind fun t174 => (if t174 = true then (if x7_1 > 0 then (if 0 ≤ (wrap64 (x7_1 - 1)) then (if (wrap64 (x7_1 - 1)) < (l0.length : Int) then (if ((rd_T24 l0 (wrap64 (x7_1 - 1))).f1) > ((rd_T24 l0 x7_1).f0) then (some false) else ((span_Apart.f k1 ((rd_T24 l0 (wrap64 (x7_1 - 1))).f0) ((rd_T24 l0 (wrap64 (x7_1 - 1))).f1) ((rd_T24 l0 x7_1).f0) ((rd_T24 l0 x7_1).f1)).bind fun t177 => (if t177 = true then (span_Sorted.l0 k1 l0 l0 (l0.length : Int) (wrap64 (x7_1 + 1))) else (some false)))) else (none)) else (none)) else (span_Sorted.l0 k1 l0 l0 (l0.length : Int) (wrap64 (x7_1 + 1)))) else (some false))) = some r := by first | (rw [hy171]; with_reducible exact H) | (have H2_ := (Option.bind_some _ _).symm.trans H; rw [hy171]; with_reducible exact H2_) | (have H2_ := (Option.bind_some _ _).symm.trans H; with_reducible exact H2_) | with_reducible exact H | (rw [hy171]; exact H) | exact H
      have Ny171 := Aside0.mk hy171
      clear hy171
      replace H := Option.bind_eq_some_iff.mp H
      obtain ⟨t174, A50, H⟩ := H
      replace H : (if t174 = true then (if x7_1 > 0 then (if 0 ≤ (wrap64 (x7_1 - 1)) then (if (wrap64 (x7_1 - 1)) < (l0.length : Int) then (if ((rd_T24 l0 (wrap64 (x7_1 - 1))).f1) > ((rd_T24 l0 x7_1).f0) then (some false) else ((span_Apart.f k1 ((rd_T24 l0 (wrap64 (x7_1 - 1))).f0) ((rd_T24 l0 (wrap64 (x7_1 - 1))).f1) ((rd_T24 l0 x7_1).f0) ((rd_T24 l0 x7_1).f1)).bind fun t177 => (if t177 = true then (span_Sorted.l0 k1 l0 l0 (l0.length : Int) (wrap64 (x7_1 + 1))) else (some false)))) else (none)) else (none)) else (span_Sorted.l0 k1 l0 l0 (l0.length : Int) (wrap64 (x7_1 + 1)))) else (some false)) = some r := H
      have A5 := Aside0.mk A50
      clear A50
      by_cases c6 : t174 = true
      ·subst c6
       have H1 : (if x7_1 > 0 then (if 0 ≤ (wrap64 (x7_1 - 1)) then (if (wrap64 (x7_1 - 1)) < (l0.length : Int) then (if ((rd_T24 l0 (wrap64 (x7_1 - 1))).f1) > ((rd_T24 l0 x7_1).f0) then (some false) else ((span_Apart.f k1 ((rd_T24 l0 (wrap64 (x7_1 - 1))).f0) ((rd_T24 l0 (wrap64 (x7_1 - 1))).f1) ((rd_T24 l0 x7_1).f0) ((rd_T24 l0 x7_1).f1)).bind fun t177 => (if t177 = true then (span_Sorted.l0 k1 l0 l0 (l0.length : Int) (wrap64 (x7_1 + 1))) else (some false)))) else (none)) else (none)) else (span_Sorted.l0 k1 l0 l0 (l0.length : Int) (wrap64 (x7_1 + 1)))) = some r := by rw [if_pos rfl] at H; exact H
       clear H
       have H := H1
       clear H1
       by_cases c7 : x7_1 > 0
       ·rw [if_pos c7] at H
        have c7b0 : decide (0 < x7_1) = true := decide_eq_true c7
        clear c7
        obtain ⟨ji8, hji8⟩ : ∃ j_ : Int, (wrap64 (x7_1 - 1)) = j_ := ⟨_, rfl⟩
        replace H : (if 0 ≤ (ji8) then (if (ji8) < (l0.length : Int) then (if ((rd_T24 l0 (ji8)).f1) > ((rd_T24 l0 x7_1).f0) then (some false) else ((span_Apart.f k1 ((rd_T24 l0 (ji8)).f0) ((rd_T24 l0 (ji8)).f1) ((rd_T24 l0 x7_1).f0) ((rd_T24 l0 x7_1).f1)).bind fun t177 => (if t177 = true then (span_Sorted.l0 k1 l0 l0 (l0.length : Int) (wrap64 (x7_1 + 1))) else (some false)))) else (none)) else (none)) = some r := by first | (rw [hji8] at H; exact H) | (simp only [hji8] at H ⊢; exact H)
        (try rw [hji8] at A5)
        have hji8w : (IntKind.i64.wrap (x7_1 - 1)) = ji8 := (i64_w _).trans hji8
        by_cases c9 : 0 ≤ (ji8)
        ·rw [if_pos c9] at H
         have c9b0 : decide (0 ≤ (ji8)) = true := decide_eq_true c9
         clear c9
         by_cases c10 : (ji8) < (l0.length : Int)
         ·rw [if_pos c10] at H
          have c10b0 : decide ((ji8) < (l0.length : Int)) = true := decide_eq_true c10
          clear c10
          by_cases c11 : ((rd_T24 l0 (ji8)).f1) > ((rd_T24 l0 x7_1).f0)
          ·rw [if_pos c11] at H
           have c11b0 : decide (((rd_T24 l0 x7_1).f0) < ((rd_T24 l0 (ji8)).f1)) = true := decide_eq_true c11
           clear c11
           obtain rfl := Option.some.inj H
           have p169 : 0 ≤ (x7_1 : Int) := pxd
           have q169 : x7_1 < (l0.length : Int) := pxd
           obtain ⟨ad169, e169, hx169_0, hx169_1⟩ := at_T24 HR0.out x7_1 p169 q169
           cases e169
           replace hx169_0 := (HB.out.cell (World.block_lt_of_cell? w _ hx169_0)).trans hx169_0
           replace hx169_1 := (HB.out.cell (World.block_lt_of_cell? w _ hx169_1)).trans hx169_1
           replace p169 := eq_true p169
           replace q169 := eq_true q169
           try go_wp2_with (first | ((with_reducible refine gate_dst (N := 4) rfl ?_); refine box_event ?hg (N := 4) ?hd (cs := #[.int .i64 0, .int .i64 0]) (t := 24) ?hr ?_; (case hd => rfl); (case hg => rfl); (case hr => first | (go_simp; done) | (go_simp; rfl)); intro gb170 hg w12 hbox hb; have BK170 := Aside0.mk (hbox); have GW170 := pxw HB hg; have GE170 := pxw HB hg; replace HB := pxs HB hb; clear hb hbox hg; obtain ⟨hcz13_0, hcz13_1, hfz13_0, hfz13_1⟩ := pxf2 BK170))
           have n0_ : Aside0 (((w12.setCell ⟨gb170, 0, none⟩ (.int .i64 ((rd_T24 l0 x7_1).f0))).setCell ⟨gb170, 1, none⟩ (.int .i64 ((rd_T24 l0 x7_1).f1))).heap[gb170]? = some (.cells #[.int .i64 ((rd_T24 l0 x7_1).f0), .int .i64 ((rd_T24 l0 x7_1).f1)] 24 (0, 0))) := ⟨pxp BK170⟩
           have n1_ : Aside0 (Below w.heap.size w ((w12.setCell ⟨gb170, 0, none⟩ (.int .i64 ((rd_T24 l0 x7_1).f0))).setCell ⟨gb170, 1, none⟩ (.int .i64 ((rd_T24 l0 x7_1).f1)))) := ⟨pxb HB⟩
           (try clear BK170)
           (try clear HB)
           generalize ((w12.setCell ⟨gb170, 0, none⟩ (.int .i64 ((rd_T24 l0 x7_1).f0))).setCell ⟨gb170, 1, none⟩ (.int .i64 ((rd_T24 l0 x7_1).f1))) = w14 at n0_ n1_ ⊢
           have BK170 := n0_
           have HB := n1_
           clear n0_ n1_
           have n0_ := Aside0.mk (blk_drew BK170.out)
           have n1_ := Aside0.mk (below_drew1 HB.out)
           clear BK170
           clear HB
           have BK170 := n0_
           have HB := n1_
           clear n0_ n1_
           have p175 : 0 ≤ ((ji8) : Int) := pxd
           have q175 : (ji8) < (l0.length : Int) := pxd
           obtain ⟨ad175, e175, hx175_0, hx175_1⟩ := at_T24 HR0.out (ji8) p175 q175
           have hw175_1 := hx175_1
           have hw175_0 := hx175_0
           obtain rfl : ad169 = ad175 := (by injection e175)
           replace hx175_0 := (HB.out.cell (World.block_lt_of_cell? w _ hx175_0)).trans hx175_0
           replace hx175_1 := (HB.out.cell (World.block_lt_of_cell? w _ hx175_1)).trans hx175_1
           replace p175 := eq_true p175
           replace q175 := eq_true q175
           refine start_ (n := 29) (S := fun w' => w'.cell? ⟨gb170, 0, none⟩ = some (.int .i64 ((rd_T24 l0 x7_1).f0)) ∧ w'.cell? ⟨gb170, 1, none⟩ = some (.int .i64 ((rd_T24 l0 x7_1).f1)) ∧ w'.cell? (ad169.add (((ji8)).toNat * 2)) = some (.int .i64 ((rd_T24 l0 (ji8)).f0)) ∧ w'.cell? ⟨(ad169.add (((ji8)).toNat * 2)).block, (ad169.add (((ji8)).toNat * 2)).off + 1, none⟩ = some (.int .i64 ((rd_T24 l0 (ji8)).f1))) (ds := []) #[false, false, false, false, false, false, false, false, false, false, false, false, false, false, false, false, false, false, false, false, false, false, false, false, false, false, false, false, false] (by kernel_rfl) rfl rfl ⟨(blk_cell BK170.out 0).trans rfl, (blk_cell BK170.out 1).trans rfl, ((HB.out.cell (World.block_lt_of_cell? w _ hw175_0)).trans hw175_0), ((HB.out.cell (World.block_lt_of_cell? w _ hw175_1)).trans hw175_1)⟩ (fun hHeld => ?_); refine with_tabW span_Sorted.tab4 span_Sorted.bits4 (fun HT_ HW_ => ?_)
           generalize w14.drew = w15 at BK170 HB hx175_0 hx175_1 hHeld ⊢
           refine tS 0 12 HT_ HW_ hHeld ?_
           refine oS 1 HT_ (fun K hK => ?_)
           refine Kd.R_lit_step k24 _ 24 ?hg (N := 13) ?hd (xs := ([(⟨(rd_T24 l0 x7_1).f0, (rd_T24 l0 x7_1).f1⟩ : S24)] : List (S24))) (inner := [.int .i64 ((rd_T24 l0 x7_1).f0), .int .i64 ((rd_T24 l0 x7_1).f1)]) (ok := fun _ => True) (okp := fun _ => True) ?hr ?hp (fun _ hk => hk) trivial (Below.refl _ _) (Nat.le_refl _) (by simp) ?_; (case hd => rfl); (case hg => rfl); (case hr => first | (go_simp; done) | (go_simp; rfl)); (case hp => exact (Reps.c2 (show Kd.M k24 _ _ _ (⟨(rd_T24 l0 x7_1).f0, (rd_T24 l0 x7_1).f1⟩ : S24) [.int .i64 ((rd_T24 l0 x7_1).f0), .int .i64 ((rd_T24 l0 x7_1).f1)] from (k24_mkM _ _ _ (⟨(rd_T24 l0 x7_1).f0, (rd_T24 l0 x7_1).f1⟩ : S24) )) (Reps.none _ _)))
           intro v172 w16 ho17 hb hg_ hnew_
           clear hg_ hnew_
           (first | rw [← Ny171.out] at ho17 | (simp only [Int.reduceToNat] at ho17; rw [← Ny171.out] at ho17))
           have n0_ := Aside0.mk (Kd.R_lower (Kd.R_newB ho17 (g := gb170) (o := .cells #[.int .i64 ((rd_T24 l0 x7_1).f0), .int .i64 ((rd_T24 l0 x7_1).f1)] 24 (0, 0)) (pxq BK170)) (below_size (pxb HB)))
           have n1_ := pxk BK170 hb
           have n2_ := pxs HB hb
           clear BK170
           clear HB
           have HO173 := n0_
           have BK170 := n1_
           have HB := n2_
           clear n0_ n1_ n2_
           clear hb ho17
           obtain ⟨Ao18, co18, eo18⟩ := Kd.R_slice HO173.out
           (first | subst eo18 | (injection eo18 with f1_ f2_ f3_; have f4_ := f1_.symm; have f5_ := f3_.symm; clear f1_ f2_ f3_; subst f4_; subst f5_))
           refine hK.out _ _ ⟨(blk_cell BK170.out 0).trans rfl, (blk_cell BK170.out 1).trans rfl, ((HB.out.cell (World.block_lt_of_cell? w _ hw175_0)).trans hw175_0), ((HB.out.cell (World.block_lt_of_cell? w _ hw175_1)).trans hw175_1)⟩ (fun hHeld => ?_)
           clear hK K
           refine nS 13 ?_
           refine oS 2 HT_ (fun K hK => ?_)
           refine goes_ Tryd.func30 (by kernel_rfl) rfl #[.slice Ao18 y171.length co18] (by rfl) rfl rfl (by (try simp only [List.map_toArray, List.map_cons, List.map_nil]); first | done | rfl | (simp only [List.length_drop, List.length_take]; rfl)) ?_
           with_reducible refine (span_right.calls k1 _ _ y171 true _ ?side1 ?side2 A5.out).mono ?_
           (case side1 => repeat (first | exact (Kd.R_reads' HO173.out).2.2 | (with_reducible refine Kd.C_alloc ?_ _) | (with_reducible refine Kd.C_drewN ?_ _) | (with_reducible refine Kd.C_drew ?_)))
           (case side2 => exact (Kd.R_reads' HO173.out).2.1)
           rintro e w19 ⟨rfl, hb⟩
           refine ⟨_, rfl, ?_⟩
           have n0_ := Aside0.mk (Kd.R_below (pxr HO173) hb)
           have n1_ := pxk BK170 hb
           have n2_ := pxs HB hb
           clear HO173
           clear BK170
           clear HB
           have HO173 := n0_
           have BK170 := n1_
           have HB := n2_
           clear n0_ n1_ n2_
           (try clear hb)
           (try clear hb2)
           (try clear hk)
           (try clear hi)
           refine hK.out _ _ ⟨(blk_cell BK170.out 0).trans rfl, (blk_cell BK170.out 1).trans rfl, ((HB.out.cell (World.block_lt_of_cell? w _ hw175_0)).trans hw175_0), ((HB.out.cell (World.block_lt_of_cell? w _ hw175_1)).trans hw175_1)⟩ (fun hHeld => ?_)
           clear hK K
           refine nS 14 ?_
           refine pS 3 15 HT_ ?_
           refine pS 4 16 HT_ ?_
           refine pS 5 17 HT_ ?_
           refine pS 6 18 HT_ ?_
           refine pS 7 19 HT_ ?_
           refine pS 8 20 HT_ ?_
           refine pS 9 21 HT_ ?_
           refine pS 10 22 HT_ ?_
           refine pS 11 23 HT_ ?_
           refine pS 12 24 HT_ ?_
           refine pS 14 26 HT_ ?_
           refine tS 13 25 HT_ HW_ hHeld ?_
           refine tS 15 27 HT_ HW_ hHeld ?_
           refine pS 16 28 HT_ ?_
           refine pS 17 29 HT_ ?_
           refine pU 18 30 HT_ ?_
           refine pU 19 31 HT_ ?_
           refine pU 20 32 HT_ ?_
           refine pU 21 33 HT_ ?_
           refine pU 22 34 HT_ ?_
           refine pU 23 35 HT_ ?_
           refine pU 24 36 HT_ ?_
           refine pU 25 37 HT_ ?_
           refine pS 26 38 HT_ ?_
           refine pS 27 39 HT_ ?_
           refine pS 28 40 HT_ ?_
           refine done_ (done_of HT_.out (by kernel_rfl)) ?_
           try go_wp2
           go_ret
           exact ⟨by first | rfl | (simp [errW_none, errW_some] <;> rfl) | (simp only [← hji8]; first | rfl | (simp [errW_none, errW_some] <;> rfl)) | (simp [*, errW_none, errW_some] <;> rfl), pxb HB⟩
          ·rw [if_neg c11] at H
           have c11b0 : decide (((rd_T24 l0 x7_1).f0) < ((rd_T24 l0 (ji8)).f1)) = false := decide_eq_false c11
           clear c11
           replace H := Option.bind_eq_some_iff.mp H
           obtain ⟨t177, A200, H⟩ := H
           replace H : (if t177 = true then (span_Sorted.l0 k1 l0 l0 (l0.length : Int) (wrap64 (x7_1 + 1))) else (some false)) = some r := H
           have A20 := Aside0.mk A200
           clear A200
           by_cases c21 : t177 = true
           ·subst c21
            have H1 : (span_Sorted.l0 k1 l0 l0 (l0.length : Int) (wrap64 (x7_1 + 1))) = some r := by rw [if_pos rfl] at H; exact H
            clear H
            have H := H1
            clear H1
            have H' := Aside0.mk H
            clear H
            have p169 : 0 ≤ (x7_1 : Int) := pxd
            have q169 : x7_1 < (l0.length : Int) := pxd
            obtain ⟨ad169, e169, hx169_0, hx169_1⟩ := at_T24 HR0.out x7_1 p169 q169
            cases e169
            replace hx169_0 := (HB.out.cell (World.block_lt_of_cell? w _ hx169_0)).trans hx169_0
            replace hx169_1 := (HB.out.cell (World.block_lt_of_cell? w _ hx169_1)).trans hx169_1
            replace p169 := eq_true p169
            replace q169 := eq_true q169
            try go_wp2_with (first | ((with_reducible refine gate_dst (N := 4) rfl ?_); refine box_event ?hg (N := 4) ?hd (cs := #[.int .i64 0, .int .i64 0]) (t := 24) ?hr ?_; (case hd => rfl); (case hg => rfl); (case hr => first | (go_simp; done) | (go_simp; rfl)); intro gb170 hg w22 hbox hb; have BK170 := Aside0.mk (hbox); have GW170 := pxw HB hg; have GE170 := pxw HB hg; replace HB := pxs HB hb; clear hb hbox hg; obtain ⟨hcz23_0, hcz23_1, hfz23_0, hfz23_1⟩ := pxf2 BK170))
            have n0_ : Aside0 (((w22.setCell ⟨gb170, 0, none⟩ (.int .i64 ((rd_T24 l0 x7_1).f0))).setCell ⟨gb170, 1, none⟩ (.int .i64 ((rd_T24 l0 x7_1).f1))).heap[gb170]? = some (.cells #[.int .i64 ((rd_T24 l0 x7_1).f0), .int .i64 ((rd_T24 l0 x7_1).f1)] 24 (0, 0))) := ⟨pxp BK170⟩
            have n1_ : Aside0 (Below w.heap.size w ((w22.setCell ⟨gb170, 0, none⟩ (.int .i64 ((rd_T24 l0 x7_1).f0))).setCell ⟨gb170, 1, none⟩ (.int .i64 ((rd_T24 l0 x7_1).f1)))) := ⟨pxb HB⟩
            (try clear BK170)
            (try clear HB)
            generalize ((w22.setCell ⟨gb170, 0, none⟩ (.int .i64 ((rd_T24 l0 x7_1).f0))).setCell ⟨gb170, 1, none⟩ (.int .i64 ((rd_T24 l0 x7_1).f1))) = w24 at n0_ n1_ ⊢
            have BK170 := n0_
            have HB := n1_
            clear n0_ n1_
            have n0_ := Aside0.mk (blk_drew BK170.out)
            have n1_ := Aside0.mk (below_drew1 HB.out)
            clear BK170
            clear HB
            have BK170 := n0_
            have HB := n1_
            clear n0_ n1_
            have p175 : 0 ≤ ((ji8) : Int) := pxd
            have q175 : (ji8) < (l0.length : Int) := pxd
            obtain ⟨ad175, e175, hx175_0, hx175_1⟩ := at_T24 HR0.out (ji8) p175 q175
            have hw175_1 := hx175_1
            have hw175_0 := hx175_0
            obtain rfl : ad169 = ad175 := (by injection e175)
            replace hx175_0 := (HB.out.cell (World.block_lt_of_cell? w _ hx175_0)).trans hx175_0
            replace hx175_1 := (HB.out.cell (World.block_lt_of_cell? w _ hx175_1)).trans hx175_1
            replace p175 := eq_true p175
            replace q175 := eq_true q175
            have p176 : 0 ≤ ((ji8) : Int) := pxd
            have q176 : (ji8) < (l0.length : Int) := pxd
            obtain ⟨ad176, e176, hx176_0, hx176_1⟩ := at_T24 HR0.out (ji8) p176 q176
            have hw176_1 := hx176_1
            have hw176_0 := hx176_0
            obtain rfl : ad169 = ad176 := (by injection e176)
            replace hx176_0 := (HB.out.cell (World.block_lt_of_cell? w _ hx176_0)).trans hx176_0
            replace hx176_1 := (HB.out.cell (World.block_lt_of_cell? w _ hx176_1)).trans hx176_1
            replace p176 := eq_true p176
            replace q176 := eq_true q176
            refine start_ (n := 29) (S := fun w' => w'.cell? ⟨gb170, 0, none⟩ = some (.int .i64 ((rd_T24 l0 x7_1).f0)) ∧ w'.cell? ⟨gb170, 1, none⟩ = some (.int .i64 ((rd_T24 l0 x7_1).f1)) ∧ w'.cell? (ad169.add (((ji8)).toNat * 2)) = some (.int .i64 ((rd_T24 l0 (ji8)).f0)) ∧ w'.cell? ⟨(ad169.add (((ji8)).toNat * 2)).block, (ad169.add (((ji8)).toNat * 2)).off + 1, none⟩ = some (.int .i64 ((rd_T24 l0 (ji8)).f1)) ∧ w'.cell? (ad169.add (((ji8)).toNat * 2)) = some (.int .i64 ((rd_T24 l0 (ji8)).f0)) ∧ w'.cell? ⟨(ad169.add (((ji8)).toNat * 2)).block, (ad169.add (((ji8)).toNat * 2)).off + 1, none⟩ = some (.int .i64 ((rd_T24 l0 (ji8)).f1))) (ds := []) #[false, false, false, false, false, false, false, false, false, false, false, false, false, false, false, false, false, false, false, false, false, false, false, false, false, false, false, false, false] (by kernel_rfl) rfl rfl ⟨(blk_cell BK170.out 0).trans rfl, (blk_cell BK170.out 1).trans rfl, ((HB.out.cell (World.block_lt_of_cell? w _ hw175_0)).trans hw175_0), ((HB.out.cell (World.block_lt_of_cell? w _ hw175_1)).trans hw175_1), ((HB.out.cell (World.block_lt_of_cell? w _ hw176_0)).trans hw176_0), ((HB.out.cell (World.block_lt_of_cell? w _ hw176_1)).trans hw176_1)⟩ (fun hHeld => ?_); refine with_tabW span_Sorted.tab4 span_Sorted.bits4 (fun HT_ HW_ => ?_)
            generalize w24.drew = w25 at BK170 HB hx175_0 hx175_1 hx176_0 hx176_1 hHeld ⊢
            refine tS 0 12 HT_ HW_ hHeld ?_
            refine oS 1 HT_ (fun K hK => ?_)
            refine Kd.R_lit_step k24 _ 24 ?hg (N := 13) ?hd (xs := ([(⟨(rd_T24 l0 x7_1).f0, (rd_T24 l0 x7_1).f1⟩ : S24)] : List (S24))) (inner := [.int .i64 ((rd_T24 l0 x7_1).f0), .int .i64 ((rd_T24 l0 x7_1).f1)]) (ok := fun _ => True) (okp := fun _ => True) ?hr ?hp (fun _ hk => hk) trivial (Below.refl _ _) (Nat.le_refl _) (by simp) ?_; (case hd => rfl); (case hg => rfl); (case hr => first | (go_simp; done) | (go_simp; rfl)); (case hp => exact (Reps.c2 (show Kd.M k24 _ _ _ (⟨(rd_T24 l0 x7_1).f0, (rd_T24 l0 x7_1).f1⟩ : S24) [.int .i64 ((rd_T24 l0 x7_1).f0), .int .i64 ((rd_T24 l0 x7_1).f1)] from (k24_mkM _ _ _ (⟨(rd_T24 l0 x7_1).f0, (rd_T24 l0 x7_1).f1⟩ : S24) )) (Reps.none _ _)))
            intro v172 w26 ho27 hb hg_ hnew_
            clear hg_ hnew_
            (first | rw [← Ny171.out] at ho27 | (simp only [Int.reduceToNat] at ho27; rw [← Ny171.out] at ho27))
            have n0_ := Aside0.mk (Kd.R_lower (Kd.R_newB ho27 (g := gb170) (o := .cells #[.int .i64 ((rd_T24 l0 x7_1).f0), .int .i64 ((rd_T24 l0 x7_1).f1)] 24 (0, 0)) (pxq BK170)) (below_size (pxb HB)))
            have n1_ := pxk BK170 hb
            have n2_ := pxs HB hb
            clear BK170
            clear HB
            have HO173 := n0_
            have BK170 := n1_
            have HB := n2_
            clear n0_ n1_ n2_
            clear hb ho27
            obtain ⟨Ao28, co28, eo28⟩ := Kd.R_slice HO173.out
            (first | subst eo28 | (injection eo28 with f1_ f2_ f3_; have f4_ := f1_.symm; have f5_ := f3_.symm; clear f1_ f2_ f3_; subst f4_; subst f5_))
            refine hK.out _ _ ⟨(blk_cell BK170.out 0).trans rfl, (blk_cell BK170.out 1).trans rfl, ((HB.out.cell (World.block_lt_of_cell? w _ hw175_0)).trans hw175_0), ((HB.out.cell (World.block_lt_of_cell? w _ hw175_1)).trans hw175_1), ((HB.out.cell (World.block_lt_of_cell? w _ hw176_0)).trans hw176_0), ((HB.out.cell (World.block_lt_of_cell? w _ hw176_1)).trans hw176_1)⟩ (fun hHeld => ?_)
            clear hK K
            refine nS 13 ?_
            refine oS 2 HT_ (fun K hK => ?_)
            refine goes_ Tryd.func30 (by kernel_rfl) rfl #[.slice Ao28 y171.length co28] (by rfl) rfl rfl (by (try simp only [List.map_toArray, List.map_cons, List.map_nil]); first | done | rfl | (simp only [List.length_drop, List.length_take]; rfl)) ?_
            with_reducible refine (span_right.calls k1 _ _ y171 true _ ?side1 ?side2 A5.out).mono ?_
            (case side1 => repeat (first | exact (Kd.R_reads' HO173.out).2.2 | (with_reducible refine Kd.C_alloc ?_ _) | (with_reducible refine Kd.C_drewN ?_ _) | (with_reducible refine Kd.C_drew ?_)))
            (case side2 => exact (Kd.R_reads' HO173.out).2.1)
            rintro e w29 ⟨rfl, hb⟩
            refine ⟨_, rfl, ?_⟩
            have n0_ := Aside0.mk (Kd.R_below (pxr HO173) hb)
            have n1_ := pxk BK170 hb
            have n2_ := pxs HB hb
            clear HO173
            clear BK170
            clear HB
            have HO173 := n0_
            have BK170 := n1_
            have HB := n2_
            clear n0_ n1_ n2_
            (try clear hb)
            (try clear hb2)
            (try clear hk)
            (try clear hi)
            refine hK.out _ _ ⟨(blk_cell BK170.out 0).trans rfl, (blk_cell BK170.out 1).trans rfl, ((HB.out.cell (World.block_lt_of_cell? w _ hw175_0)).trans hw175_0), ((HB.out.cell (World.block_lt_of_cell? w _ hw175_1)).trans hw175_1), ((HB.out.cell (World.block_lt_of_cell? w _ hw176_0)).trans hw176_0), ((HB.out.cell (World.block_lt_of_cell? w _ hw176_1)).trans hw176_1)⟩ (fun hHeld => ?_)
            clear hK K
            refine nS 14 ?_
            refine pS 3 15 HT_ ?_
            refine pS 4 16 HT_ ?_
            refine pS 5 17 HT_ ?_
            refine pS 6 18 HT_ ?_
            refine pS 7 19 HT_ ?_
            refine pS 8 20 HT_ ?_
            refine pS 9 21 HT_ ?_
            refine pS 10 22 HT_ ?_
            refine pS 11 23 HT_ ?_
            refine pS 12 24 HT_ ?_
            refine pS 14 26 HT_ ?_
            refine tS 13 25 HT_ HW_ hHeld ?_
            refine tS 15 27 HT_ HW_ hHeld ?_
            refine pS 16 28 HT_ ?_
            refine pS 17 29 HT_ ?_
            refine pS 18 30 HT_ ?_
            refine pS 19 31 HT_ ?_
            refine pS 20 32 HT_ ?_
            refine pS 21 33 HT_ ?_
            refine tS 22 34 HT_ HW_ hHeld ?_
            refine tS 23 35 HT_ HW_ hHeld ?_
            refine oS 24 HT_ (fun K hK => ?_)
            refine goes_ Tryd.func41 (by kernel_rfl) rfl #[.agg #[.int .i64 ((rd_T24 l0 (ji8)).f0), .int .i64 ((rd_T24 l0 (ji8)).f1)], .agg #[.int .i64 ((rd_T24 l0 x7_1).f0), .int .i64 ((rd_T24 l0 x7_1).f1)]] (by rfl) rfl rfl (by (try simp only [List.map_toArray, List.map_cons, List.map_nil]); first | done | (simp only [hji8]; rfl) | rfl | (simp only [List.length_drop, List.length_take]; rfl)) ?_
            with_reducible refine (span_Apart.calls k1 ((rd_T24 l0 (ji8)).f0) ((rd_T24 l0 (ji8)).f1) ((rd_T24 l0 x7_1).f0) ((rd_T24 l0 x7_1).f1) true _ A20.out).mono ?_
            rintro e w30 ⟨rfl, hb⟩
            refine ⟨_, rfl, ?_⟩
            have n0_ := Aside0.mk (Kd.R_below (pxr HO173) hb)
            have n1_ := pxk BK170 hb
            have n2_ := pxs HB hb
            clear HO173
            clear BK170
            clear HB
            have HO173 := n0_
            have BK170 := n1_
            have HB := n2_
            clear n0_ n1_ n2_
            (try clear hb)
            (try clear hb2)
            (try clear hk)
            (try clear hi)
            refine hK.out _ _ ⟨(blk_cell BK170.out 0).trans rfl, (blk_cell BK170.out 1).trans rfl, ((HB.out.cell (World.block_lt_of_cell? w _ hw175_0)).trans hw175_0), ((HB.out.cell (World.block_lt_of_cell? w _ hw175_1)).trans hw175_1), ((HB.out.cell (World.block_lt_of_cell? w _ hw176_0)).trans hw176_0), ((HB.out.cell (World.block_lt_of_cell? w _ hw176_1)).trans hw176_1)⟩ (fun hHeld => ?_)
            clear hK K
            refine nS 36 ?_
            refine pS 25 37 HT_ ?_
            refine pS 26 38 HT_ ?_
            refine pS 27 39 HT_ ?_
            refine pS 28 40 HT_ ?_
            refine done_ (done_of HT_.out (by kernel_rfl)) ?_
            try go_wp2
            go_roundg k1
            case measure => have := HK1.out; omega
            case rel => exact ⟨(wrap64 (x7_1 + 1)), (by first | rfl | (simp; done) | (simp [*]; done)), H', ⟨by have := HK1.out; omega⟩, ⟨pxb HB⟩⟩
           ·replace c21 := Bool.eq_false_iff.mpr c21
            subst c21
            have H1 : (some false) = some r := by rw [if_neg (show ¬ (false = true) by decide)] at H; exact H
            clear H
            have H := H1
            clear H1
            obtain rfl := Option.some.inj H
            have p169 : 0 ≤ (x7_1 : Int) := pxd
            have q169 : x7_1 < (l0.length : Int) := pxd
            obtain ⟨ad169, e169, hx169_0, hx169_1⟩ := at_T24 HR0.out x7_1 p169 q169
            cases e169
            replace hx169_0 := (HB.out.cell (World.block_lt_of_cell? w _ hx169_0)).trans hx169_0
            replace hx169_1 := (HB.out.cell (World.block_lt_of_cell? w _ hx169_1)).trans hx169_1
            replace p169 := eq_true p169
            replace q169 := eq_true q169
            try go_wp2_with (first | ((with_reducible refine gate_dst (N := 4) rfl ?_); refine box_event ?hg (N := 4) ?hd (cs := #[.int .i64 0, .int .i64 0]) (t := 24) ?hr ?_; (case hd => rfl); (case hg => rfl); (case hr => first | (go_simp; done) | (go_simp; rfl)); intro gb170 hg w31 hbox hb; have BK170 := Aside0.mk (hbox); have GW170 := pxw HB hg; have GE170 := pxw HB hg; replace HB := pxs HB hb; clear hb hbox hg; obtain ⟨hcz32_0, hcz32_1, hfz32_0, hfz32_1⟩ := pxf2 BK170))
            have n0_ : Aside0 (((w31.setCell ⟨gb170, 0, none⟩ (.int .i64 ((rd_T24 l0 x7_1).f0))).setCell ⟨gb170, 1, none⟩ (.int .i64 ((rd_T24 l0 x7_1).f1))).heap[gb170]? = some (.cells #[.int .i64 ((rd_T24 l0 x7_1).f0), .int .i64 ((rd_T24 l0 x7_1).f1)] 24 (0, 0))) := ⟨pxp BK170⟩
            have n1_ : Aside0 (Below w.heap.size w ((w31.setCell ⟨gb170, 0, none⟩ (.int .i64 ((rd_T24 l0 x7_1).f0))).setCell ⟨gb170, 1, none⟩ (.int .i64 ((rd_T24 l0 x7_1).f1)))) := ⟨pxb HB⟩
            (try clear BK170)
            (try clear HB)
            generalize ((w31.setCell ⟨gb170, 0, none⟩ (.int .i64 ((rd_T24 l0 x7_1).f0))).setCell ⟨gb170, 1, none⟩ (.int .i64 ((rd_T24 l0 x7_1).f1))) = w33 at n0_ n1_ ⊢
            have BK170 := n0_
            have HB := n1_
            clear n0_ n1_
            have n0_ := Aside0.mk (blk_drew BK170.out)
            have n1_ := Aside0.mk (below_drew1 HB.out)
            clear BK170
            clear HB
            have BK170 := n0_
            have HB := n1_
            clear n0_ n1_
            have p175 : 0 ≤ ((ji8) : Int) := pxd
            have q175 : (ji8) < (l0.length : Int) := pxd
            obtain ⟨ad175, e175, hx175_0, hx175_1⟩ := at_T24 HR0.out (ji8) p175 q175
            have hw175_1 := hx175_1
            have hw175_0 := hx175_0
            obtain rfl : ad169 = ad175 := (by injection e175)
            replace hx175_0 := (HB.out.cell (World.block_lt_of_cell? w _ hx175_0)).trans hx175_0
            replace hx175_1 := (HB.out.cell (World.block_lt_of_cell? w _ hx175_1)).trans hx175_1
            replace p175 := eq_true p175
            replace q175 := eq_true q175
            have p176 : 0 ≤ ((ji8) : Int) := pxd
            have q176 : (ji8) < (l0.length : Int) := pxd
            obtain ⟨ad176, e176, hx176_0, hx176_1⟩ := at_T24 HR0.out (ji8) p176 q176
            have hw176_1 := hx176_1
            have hw176_0 := hx176_0
            obtain rfl : ad169 = ad176 := (by injection e176)
            replace hx176_0 := (HB.out.cell (World.block_lt_of_cell? w _ hx176_0)).trans hx176_0
            replace hx176_1 := (HB.out.cell (World.block_lt_of_cell? w _ hx176_1)).trans hx176_1
            replace p176 := eq_true p176
            replace q176 := eq_true q176
            refine start_ (n := 29) (S := fun w' => w'.cell? ⟨gb170, 0, none⟩ = some (.int .i64 ((rd_T24 l0 x7_1).f0)) ∧ w'.cell? ⟨gb170, 1, none⟩ = some (.int .i64 ((rd_T24 l0 x7_1).f1)) ∧ w'.cell? (ad169.add (((ji8)).toNat * 2)) = some (.int .i64 ((rd_T24 l0 (ji8)).f0)) ∧ w'.cell? ⟨(ad169.add (((ji8)).toNat * 2)).block, (ad169.add (((ji8)).toNat * 2)).off + 1, none⟩ = some (.int .i64 ((rd_T24 l0 (ji8)).f1)) ∧ w'.cell? (ad169.add (((ji8)).toNat * 2)) = some (.int .i64 ((rd_T24 l0 (ji8)).f0)) ∧ w'.cell? ⟨(ad169.add (((ji8)).toNat * 2)).block, (ad169.add (((ji8)).toNat * 2)).off + 1, none⟩ = some (.int .i64 ((rd_T24 l0 (ji8)).f1))) (ds := []) #[false, false, false, false, false, false, false, false, false, false, false, false, false, false, false, false, false, false, false, false, false, false, false, false, false, false, false, false, false] (by kernel_rfl) rfl rfl ⟨(blk_cell BK170.out 0).trans rfl, (blk_cell BK170.out 1).trans rfl, ((HB.out.cell (World.block_lt_of_cell? w _ hw175_0)).trans hw175_0), ((HB.out.cell (World.block_lt_of_cell? w _ hw175_1)).trans hw175_1), ((HB.out.cell (World.block_lt_of_cell? w _ hw176_0)).trans hw176_0), ((HB.out.cell (World.block_lt_of_cell? w _ hw176_1)).trans hw176_1)⟩ (fun hHeld => ?_); refine with_tabW span_Sorted.tab4 span_Sorted.bits4 (fun HT_ HW_ => ?_)
            generalize w33.drew = w34 at BK170 HB hx175_0 hx175_1 hx176_0 hx176_1 hHeld ⊢
            refine tS 0 12 HT_ HW_ hHeld ?_
            refine oS 1 HT_ (fun K hK => ?_)
            refine Kd.R_lit_step k24 _ 24 ?hg (N := 13) ?hd (xs := ([(⟨(rd_T24 l0 x7_1).f0, (rd_T24 l0 x7_1).f1⟩ : S24)] : List (S24))) (inner := [.int .i64 ((rd_T24 l0 x7_1).f0), .int .i64 ((rd_T24 l0 x7_1).f1)]) (ok := fun _ => True) (okp := fun _ => True) ?hr ?hp (fun _ hk => hk) trivial (Below.refl _ _) (Nat.le_refl _) (by simp) ?_; (case hd => rfl); (case hg => rfl); (case hr => first | (go_simp; done) | (go_simp; rfl)); (case hp => exact (Reps.c2 (show Kd.M k24 _ _ _ (⟨(rd_T24 l0 x7_1).f0, (rd_T24 l0 x7_1).f1⟩ : S24) [.int .i64 ((rd_T24 l0 x7_1).f0), .int .i64 ((rd_T24 l0 x7_1).f1)] from (k24_mkM _ _ _ (⟨(rd_T24 l0 x7_1).f0, (rd_T24 l0 x7_1).f1⟩ : S24) )) (Reps.none _ _)))
            intro v172 w35 ho36 hb hg_ hnew_
            clear hg_ hnew_
            (first | rw [← Ny171.out] at ho36 | (simp only [Int.reduceToNat] at ho36; rw [← Ny171.out] at ho36))
            have n0_ := Aside0.mk (Kd.R_lower (Kd.R_newB ho36 (g := gb170) (o := .cells #[.int .i64 ((rd_T24 l0 x7_1).f0), .int .i64 ((rd_T24 l0 x7_1).f1)] 24 (0, 0)) (pxq BK170)) (below_size (pxb HB)))
            have n1_ := pxk BK170 hb
            have n2_ := pxs HB hb
            clear BK170
            clear HB
            have HO173 := n0_
            have BK170 := n1_
            have HB := n2_
            clear n0_ n1_ n2_
            clear hb ho36
            obtain ⟨Ao37, co37, eo37⟩ := Kd.R_slice HO173.out
            (first | subst eo37 | (injection eo37 with f1_ f2_ f3_; have f4_ := f1_.symm; have f5_ := f3_.symm; clear f1_ f2_ f3_; subst f4_; subst f5_))
            refine hK.out _ _ ⟨(blk_cell BK170.out 0).trans rfl, (blk_cell BK170.out 1).trans rfl, ((HB.out.cell (World.block_lt_of_cell? w _ hw175_0)).trans hw175_0), ((HB.out.cell (World.block_lt_of_cell? w _ hw175_1)).trans hw175_1), ((HB.out.cell (World.block_lt_of_cell? w _ hw176_0)).trans hw176_0), ((HB.out.cell (World.block_lt_of_cell? w _ hw176_1)).trans hw176_1)⟩ (fun hHeld => ?_)
            clear hK K
            refine nS 13 ?_
            refine oS 2 HT_ (fun K hK => ?_)
            refine goes_ Tryd.func30 (by kernel_rfl) rfl #[.slice Ao37 y171.length co37] (by rfl) rfl rfl (by (try simp only [List.map_toArray, List.map_cons, List.map_nil]); first | done | rfl | (simp only [List.length_drop, List.length_take]; rfl)) ?_
            with_reducible refine (span_right.calls k1 _ _ y171 true _ ?side1 ?side2 A5.out).mono ?_
            (case side1 => repeat (first | exact (Kd.R_reads' HO173.out).2.2 | (with_reducible refine Kd.C_alloc ?_ _) | (with_reducible refine Kd.C_drewN ?_ _) | (with_reducible refine Kd.C_drew ?_)))
            (case side2 => exact (Kd.R_reads' HO173.out).2.1)
            rintro e w38 ⟨rfl, hb⟩
            refine ⟨_, rfl, ?_⟩
            have n0_ := Aside0.mk (Kd.R_below (pxr HO173) hb)
            have n1_ := pxk BK170 hb
            have n2_ := pxs HB hb
            clear HO173
            clear BK170
            clear HB
            have HO173 := n0_
            have BK170 := n1_
            have HB := n2_
            clear n0_ n1_ n2_
            (try clear hb)
            (try clear hb2)
            (try clear hk)
            (try clear hi)
            refine hK.out _ _ ⟨(blk_cell BK170.out 0).trans rfl, (blk_cell BK170.out 1).trans rfl, ((HB.out.cell (World.block_lt_of_cell? w _ hw175_0)).trans hw175_0), ((HB.out.cell (World.block_lt_of_cell? w _ hw175_1)).trans hw175_1), ((HB.out.cell (World.block_lt_of_cell? w _ hw176_0)).trans hw176_0), ((HB.out.cell (World.block_lt_of_cell? w _ hw176_1)).trans hw176_1)⟩ (fun hHeld => ?_)
            clear hK K
            refine nS 14 ?_
            refine pS 3 15 HT_ ?_
            refine pS 4 16 HT_ ?_
            refine pS 5 17 HT_ ?_
            refine pS 6 18 HT_ ?_
            refine pS 7 19 HT_ ?_
            refine pS 8 20 HT_ ?_
            refine pS 9 21 HT_ ?_
            refine pS 10 22 HT_ ?_
            refine pS 11 23 HT_ ?_
            refine pS 12 24 HT_ ?_
            refine pS 14 26 HT_ ?_
            refine tS 13 25 HT_ HW_ hHeld ?_
            refine tS 15 27 HT_ HW_ hHeld ?_
            refine pS 16 28 HT_ ?_
            refine pS 17 29 HT_ ?_
            refine pS 18 30 HT_ ?_
            refine pS 19 31 HT_ ?_
            refine pS 20 32 HT_ ?_
            refine pS 21 33 HT_ ?_
            refine tS 22 34 HT_ HW_ hHeld ?_
            refine tS 23 35 HT_ HW_ hHeld ?_
            refine oS 24 HT_ (fun K hK => ?_)
            refine goes_ Tryd.func41 (by kernel_rfl) rfl #[.agg #[.int .i64 ((rd_T24 l0 (ji8)).f0), .int .i64 ((rd_T24 l0 (ji8)).f1)], .agg #[.int .i64 ((rd_T24 l0 x7_1).f0), .int .i64 ((rd_T24 l0 x7_1).f1)]] (by rfl) rfl rfl (by (try simp only [List.map_toArray, List.map_cons, List.map_nil]); first | done | (simp only [hji8]; rfl) | rfl | (simp only [List.length_drop, List.length_take]; rfl)) ?_
            with_reducible refine (span_Apart.calls k1 ((rd_T24 l0 (ji8)).f0) ((rd_T24 l0 (ji8)).f1) ((rd_T24 l0 x7_1).f0) ((rd_T24 l0 x7_1).f1) false _ A20.out).mono ?_
            rintro e w39 ⟨rfl, hb⟩
            refine ⟨_, rfl, ?_⟩
            have n0_ := Aside0.mk (Kd.R_below (pxr HO173) hb)
            have n1_ := pxk BK170 hb
            have n2_ := pxs HB hb
            clear HO173
            clear BK170
            clear HB
            have HO173 := n0_
            have BK170 := n1_
            have HB := n2_
            clear n0_ n1_ n2_
            (try clear hb)
            (try clear hb2)
            (try clear hk)
            (try clear hi)
            refine hK.out _ _ ⟨(blk_cell BK170.out 0).trans rfl, (blk_cell BK170.out 1).trans rfl, ((HB.out.cell (World.block_lt_of_cell? w _ hw175_0)).trans hw175_0), ((HB.out.cell (World.block_lt_of_cell? w _ hw175_1)).trans hw175_1), ((HB.out.cell (World.block_lt_of_cell? w _ hw176_0)).trans hw176_0), ((HB.out.cell (World.block_lt_of_cell? w _ hw176_1)).trans hw176_1)⟩ (fun hHeld => ?_)
            clear hK K
            refine nS 36 ?_
            refine pS 25 37 HT_ ?_
            refine pS 26 38 HT_ ?_
            refine pS 27 39 HT_ ?_
            refine pS 28 40 HT_ ?_
            refine done_ (done_of HT_.out (by kernel_rfl)) ?_
            try go_wp2
            go_ret
            exact ⟨by first | rfl | (simp [errW_none, errW_some] <;> rfl) | (simp only [← hji8]; first | rfl | (simp [errW_none, errW_some] <;> rfl)) | (simp [*, errW_none, errW_some] <;> rfl), pxb HB⟩
         ·rw [if_neg c10] at H
          exact absurd H (by simp)
        ·rw [if_neg c9] at H
         exact absurd H (by simp)
       ·rw [if_neg c7] at H
        have c7b0 : decide (0 < x7_1) = false := decide_eq_false c7
        clear c7
        have H' := Aside0.mk H
        clear H
        have p169 : 0 ≤ (x7_1 : Int) := pxd
        have q169 : x7_1 < (l0.length : Int) := pxd
        obtain ⟨ad169, e169, hx169_0, hx169_1⟩ := at_T24 HR0.out x7_1 p169 q169
        cases e169
        replace hx169_0 := (HB.out.cell (World.block_lt_of_cell? w _ hx169_0)).trans hx169_0
        replace hx169_1 := (HB.out.cell (World.block_lt_of_cell? w _ hx169_1)).trans hx169_1
        replace p169 := eq_true p169
        replace q169 := eq_true q169
        try go_wp2_with (first | ((with_reducible refine gate_dst (N := 4) rfl ?_); refine box_event ?hg (N := 4) ?hd (cs := #[.int .i64 0, .int .i64 0]) (t := 24) ?hr ?_; (case hd => rfl); (case hg => rfl); (case hr => first | (go_simp; done) | (go_simp; rfl)); intro gb170 hg w40 hbox hb; have BK170 := Aside0.mk (hbox); have GW170 := pxw HB hg; have GE170 := pxw HB hg; replace HB := pxs HB hb; clear hb hbox hg; obtain ⟨hcz41_0, hcz41_1, hfz41_0, hfz41_1⟩ := pxf2 BK170))
        have n0_ : Aside0 (((w40.setCell ⟨gb170, 0, none⟩ (.int .i64 ((rd_T24 l0 x7_1).f0))).setCell ⟨gb170, 1, none⟩ (.int .i64 ((rd_T24 l0 x7_1).f1))).heap[gb170]? = some (.cells #[.int .i64 ((rd_T24 l0 x7_1).f0), .int .i64 ((rd_T24 l0 x7_1).f1)] 24 (0, 0))) := ⟨pxp BK170⟩
        have n1_ : Aside0 (Below w.heap.size w ((w40.setCell ⟨gb170, 0, none⟩ (.int .i64 ((rd_T24 l0 x7_1).f0))).setCell ⟨gb170, 1, none⟩ (.int .i64 ((rd_T24 l0 x7_1).f1)))) := ⟨pxb HB⟩
        (try clear BK170)
        (try clear HB)
        generalize ((w40.setCell ⟨gb170, 0, none⟩ (.int .i64 ((rd_T24 l0 x7_1).f0))).setCell ⟨gb170, 1, none⟩ (.int .i64 ((rd_T24 l0 x7_1).f1))) = w42 at n0_ n1_ ⊢
        have BK170 := n0_
        have HB := n1_
        clear n0_ n1_
        have n0_ := Aside0.mk (blk_drew BK170.out)
        have n1_ := Aside0.mk (below_drew1 HB.out)
        clear BK170
        clear HB
        have BK170 := n0_
        have HB := n1_
        clear n0_ n1_
        refine start_ (n := 29) (S := fun w' => w'.cell? ⟨gb170, 0, none⟩ = some (.int .i64 ((rd_T24 l0 x7_1).f0)) ∧ w'.cell? ⟨gb170, 1, none⟩ = some (.int .i64 ((rd_T24 l0 x7_1).f1))) (ds := []) #[false, false, false, false, false, false, false, false, false, false, false, false, false, false, false, false, false, false, false, false, false, false, false, false, false, false, false, false, false] (by kernel_rfl) rfl rfl ⟨(blk_cell BK170.out 0).trans rfl, (blk_cell BK170.out 1).trans rfl⟩ (fun hHeld => ?_); refine with_tabW span_Sorted.tab4 span_Sorted.bits4 (fun HT_ HW_ => ?_)
        generalize w42.drew = w43 at BK170 HB hHeld ⊢
        refine tS 0 12 HT_ HW_ hHeld ?_
        refine oS 1 HT_ (fun K hK => ?_)
        refine Kd.R_lit_step k24 _ 24 ?hg (N := 13) ?hd (xs := ([(⟨(rd_T24 l0 x7_1).f0, (rd_T24 l0 x7_1).f1⟩ : S24)] : List (S24))) (inner := [.int .i64 ((rd_T24 l0 x7_1).f0), .int .i64 ((rd_T24 l0 x7_1).f1)]) (ok := fun _ => True) (okp := fun _ => True) ?hr ?hp (fun _ hk => hk) trivial (Below.refl _ _) (Nat.le_refl _) (by simp) ?_; (case hd => rfl); (case hg => rfl); (case hr => first | (go_simp; done) | (go_simp; rfl)); (case hp => exact (Reps.c2 (show Kd.M k24 _ _ _ (⟨(rd_T24 l0 x7_1).f0, (rd_T24 l0 x7_1).f1⟩ : S24) [.int .i64 ((rd_T24 l0 x7_1).f0), .int .i64 ((rd_T24 l0 x7_1).f1)] from (k24_mkM _ _ _ (⟨(rd_T24 l0 x7_1).f0, (rd_T24 l0 x7_1).f1⟩ : S24) )) (Reps.none _ _)))
        intro v172 w44 ho45 hb hg_ hnew_
        clear hg_ hnew_
        (first | rw [← Ny171.out] at ho45 | (simp only [Int.reduceToNat] at ho45; rw [← Ny171.out] at ho45))
        have n0_ := Aside0.mk (Kd.R_lower (Kd.R_newB ho45 (g := gb170) (o := .cells #[.int .i64 ((rd_T24 l0 x7_1).f0), .int .i64 ((rd_T24 l0 x7_1).f1)] 24 (0, 0)) (pxq BK170)) (below_size (pxb HB)))
        have n1_ := pxk BK170 hb
        have n2_ := pxs HB hb
        clear BK170
        clear HB
        have HO173 := n0_
        have BK170 := n1_
        have HB := n2_
        clear n0_ n1_ n2_
        clear hb ho45
        obtain ⟨Ao46, co46, eo46⟩ := Kd.R_slice HO173.out
        (first | subst eo46 | (injection eo46 with f1_ f2_ f3_; have f4_ := f1_.symm; have f5_ := f3_.symm; clear f1_ f2_ f3_; subst f4_; subst f5_))
        refine hK.out _ _ ⟨(blk_cell BK170.out 0).trans rfl, (blk_cell BK170.out 1).trans rfl⟩ (fun hHeld => ?_)
        clear hK K
        refine nS 13 ?_
        refine oS 2 HT_ (fun K hK => ?_)
        refine goes_ Tryd.func30 (by kernel_rfl) rfl #[.slice Ao46 y171.length co46] (by rfl) rfl rfl (by (try simp only [List.map_toArray, List.map_cons, List.map_nil]); first | done | rfl | (simp only [List.length_drop, List.length_take]; rfl)) ?_
        with_reducible refine (span_right.calls k1 _ _ y171 true _ ?side1 ?side2 A5.out).mono ?_
        (case side1 => repeat (first | exact (Kd.R_reads' HO173.out).2.2 | (with_reducible refine Kd.C_alloc ?_ _) | (with_reducible refine Kd.C_drewN ?_ _) | (with_reducible refine Kd.C_drew ?_)))
        (case side2 => exact (Kd.R_reads' HO173.out).2.1)
        rintro e w47 ⟨rfl, hb⟩
        refine ⟨_, rfl, ?_⟩
        have n0_ := Aside0.mk (Kd.R_below (pxr HO173) hb)
        have n1_ := pxk BK170 hb
        have n2_ := pxs HB hb
        clear HO173
        clear BK170
        clear HB
        have HO173 := n0_
        have BK170 := n1_
        have HB := n2_
        clear n0_ n1_ n2_
        (try clear hb)
        (try clear hb2)
        (try clear hk)
        (try clear hi)
        refine hK.out _ _ ⟨(blk_cell BK170.out 0).trans rfl, (blk_cell BK170.out 1).trans rfl⟩ (fun hHeld => ?_)
        clear hK K
        refine nS 14 ?_
        refine pS 3 15 HT_ ?_
        refine pS 4 16 HT_ ?_
        refine pS 5 17 HT_ ?_
        refine pS 6 18 HT_ ?_
        refine pS 7 19 HT_ ?_
        refine pU 8 20 HT_ ?_
        refine pU 9 21 HT_ ?_
        refine pU 10 22 HT_ ?_
        refine pU 11 23 HT_ ?_
        refine pU 12 24 HT_ ?_
        refine pU 13 25 HT_ ?_
        refine pU 14 26 HT_ ?_
        refine pU 15 27 HT_ ?_
        refine pU 16 28 HT_ ?_
        refine pU 17 29 HT_ ?_
        refine pU 18 30 HT_ ?_
        refine pU 19 31 HT_ ?_
        refine pU 20 32 HT_ ?_
        refine pU 21 33 HT_ ?_
        refine pU 22 34 HT_ ?_
        refine pU 23 35 HT_ ?_
        refine pU 24 36 HT_ ?_
        refine pU 25 37 HT_ ?_
        refine pU 26 38 HT_ ?_
        refine pS 27 39 HT_ ?_
        refine pS 28 40 HT_ ?_
        refine done_ (done_of HT_.out (by kernel_rfl)) ?_
        try go_wp2
        go_roundg k1
        case measure => have := HK1.out; omega
        case rel => exact ⟨(wrap64 (x7_1 + 1)), (by first | rfl | (simp; done) | (simp [*]; done)), H', ⟨by have := HK1.out; omega⟩, ⟨pxb HB⟩⟩
      ·replace c6 := Bool.eq_false_iff.mpr c6
       subst c6
       have H1 : (some false) = some r := by rw [if_neg (show ¬ (false = true) by decide)] at H; exact H
       clear H
       have H := H1
       clear H1
       obtain rfl := Option.some.inj H
       have p169 : 0 ≤ (x7_1 : Int) := pxd
       have q169 : x7_1 < (l0.length : Int) := pxd
       obtain ⟨ad169, e169, hx169_0, hx169_1⟩ := at_T24 HR0.out x7_1 p169 q169
       cases e169
       replace hx169_0 := (HB.out.cell (World.block_lt_of_cell? w _ hx169_0)).trans hx169_0
       replace hx169_1 := (HB.out.cell (World.block_lt_of_cell? w _ hx169_1)).trans hx169_1
       replace p169 := eq_true p169
       replace q169 := eq_true q169
       try go_wp2_with (first | ((with_reducible refine gate_dst (N := 4) rfl ?_); refine box_event ?hg (N := 4) ?hd (cs := #[.int .i64 0, .int .i64 0]) (t := 24) ?hr ?_; (case hd => rfl); (case hg => rfl); (case hr => first | (go_simp; done) | (go_simp; rfl)); intro gb170 hg w48 hbox hb; have BK170 := Aside0.mk (hbox); have GW170 := pxw HB hg; have GE170 := pxw HB hg; replace HB := pxs HB hb; clear hb hbox hg; obtain ⟨hcz49_0, hcz49_1, hfz49_0, hfz49_1⟩ := pxf2 BK170))
       have n0_ : Aside0 (((w48.setCell ⟨gb170, 0, none⟩ (.int .i64 ((rd_T24 l0 x7_1).f0))).setCell ⟨gb170, 1, none⟩ (.int .i64 ((rd_T24 l0 x7_1).f1))).heap[gb170]? = some (.cells #[.int .i64 ((rd_T24 l0 x7_1).f0), .int .i64 ((rd_T24 l0 x7_1).f1)] 24 (0, 0))) := ⟨pxp BK170⟩
       have n1_ : Aside0 (Below w.heap.size w ((w48.setCell ⟨gb170, 0, none⟩ (.int .i64 ((rd_T24 l0 x7_1).f0))).setCell ⟨gb170, 1, none⟩ (.int .i64 ((rd_T24 l0 x7_1).f1)))) := ⟨pxb HB⟩
       (try clear BK170)
       (try clear HB)
       generalize ((w48.setCell ⟨gb170, 0, none⟩ (.int .i64 ((rd_T24 l0 x7_1).f0))).setCell ⟨gb170, 1, none⟩ (.int .i64 ((rd_T24 l0 x7_1).f1))) = w50 at n0_ n1_ ⊢
       have BK170 := n0_
       have HB := n1_
       clear n0_ n1_
       have n0_ := Aside0.mk (blk_drew BK170.out)
       have n1_ := Aside0.mk (below_drew1 HB.out)
       clear BK170
       clear HB
       have BK170 := n0_
       have HB := n1_
       clear n0_ n1_
       refine start_ (n := 29) (S := fun w' => w'.cell? ⟨gb170, 0, none⟩ = some (.int .i64 ((rd_T24 l0 x7_1).f0)) ∧ w'.cell? ⟨gb170, 1, none⟩ = some (.int .i64 ((rd_T24 l0 x7_1).f1))) (ds := []) #[false, false, false, false, false, false, false, false, false, false, false, false, false, false, false, false, false, false, false, false, false, false, false, false, false, false, false, false, false] (by kernel_rfl) rfl rfl ⟨(blk_cell BK170.out 0).trans rfl, (blk_cell BK170.out 1).trans rfl⟩ (fun hHeld => ?_); refine with_tabW span_Sorted.tab4 span_Sorted.bits4 (fun HT_ HW_ => ?_)
       generalize w50.drew = w51 at BK170 HB hHeld ⊢
       refine tS 0 12 HT_ HW_ hHeld ?_
       refine oS 1 HT_ (fun K hK => ?_)
       refine Kd.R_lit_step k24 _ 24 ?hg (N := 13) ?hd (xs := ([(⟨(rd_T24 l0 x7_1).f0, (rd_T24 l0 x7_1).f1⟩ : S24)] : List (S24))) (inner := [.int .i64 ((rd_T24 l0 x7_1).f0), .int .i64 ((rd_T24 l0 x7_1).f1)]) (ok := fun _ => True) (okp := fun _ => True) ?hr ?hp (fun _ hk => hk) trivial (Below.refl _ _) (Nat.le_refl _) (by simp) ?_; (case hd => rfl); (case hg => rfl); (case hr => first | (go_simp; done) | (go_simp; rfl)); (case hp => exact (Reps.c2 (show Kd.M k24 _ _ _ (⟨(rd_T24 l0 x7_1).f0, (rd_T24 l0 x7_1).f1⟩ : S24) [.int .i64 ((rd_T24 l0 x7_1).f0), .int .i64 ((rd_T24 l0 x7_1).f1)] from (k24_mkM _ _ _ (⟨(rd_T24 l0 x7_1).f0, (rd_T24 l0 x7_1).f1⟩ : S24) )) (Reps.none _ _)))
       intro v172 w52 ho53 hb hg_ hnew_
       clear hg_ hnew_
       (first | rw [← Ny171.out] at ho53 | (simp only [Int.reduceToNat] at ho53; rw [← Ny171.out] at ho53))
       have n0_ := Aside0.mk (Kd.R_lower (Kd.R_newB ho53 (g := gb170) (o := .cells #[.int .i64 ((rd_T24 l0 x7_1).f0), .int .i64 ((rd_T24 l0 x7_1).f1)] 24 (0, 0)) (pxq BK170)) (below_size (pxb HB)))
       have n1_ := pxk BK170 hb
       have n2_ := pxs HB hb
       clear BK170
       clear HB
       have HO173 := n0_
       have BK170 := n1_
       have HB := n2_
       clear n0_ n1_ n2_
       clear hb ho53
       obtain ⟨Ao54, co54, eo54⟩ := Kd.R_slice HO173.out
       (first | subst eo54 | (injection eo54 with f1_ f2_ f3_; have f4_ := f1_.symm; have f5_ := f3_.symm; clear f1_ f2_ f3_; subst f4_; subst f5_))
       refine hK.out _ _ ⟨(blk_cell BK170.out 0).trans rfl, (blk_cell BK170.out 1).trans rfl⟩ (fun hHeld => ?_)
       clear hK K
       refine nS 13 ?_
       refine oS 2 HT_ (fun K hK => ?_)
       refine goes_ Tryd.func30 (by kernel_rfl) rfl #[.slice Ao54 y171.length co54] (by rfl) rfl rfl (by (try simp only [List.map_toArray, List.map_cons, List.map_nil]); first | done | rfl | (simp only [List.length_drop, List.length_take]; rfl)) ?_
       with_reducible refine (span_right.calls k1 _ _ y171 false _ ?side1 ?side2 A5.out).mono ?_
       (case side1 => repeat (first | exact (Kd.R_reads' HO173.out).2.2 | (with_reducible refine Kd.C_alloc ?_ _) | (with_reducible refine Kd.C_drewN ?_ _) | (with_reducible refine Kd.C_drew ?_)))
       (case side2 => exact (Kd.R_reads' HO173.out).2.1)
       rintro e w55 ⟨rfl, hb⟩
       refine ⟨_, rfl, ?_⟩
       have n0_ := Aside0.mk (Kd.R_below (pxr HO173) hb)
       have n1_ := pxk BK170 hb
       have n2_ := pxs HB hb
       clear HO173
       clear BK170
       clear HB
       have HO173 := n0_
       have BK170 := n1_
       have HB := n2_
       clear n0_ n1_ n2_
       (try clear hb)
       (try clear hb2)
       (try clear hk)
       (try clear hi)
       refine hK.out _ _ ⟨(blk_cell BK170.out 0).trans rfl, (blk_cell BK170.out 1).trans rfl⟩ (fun hHeld => ?_)
       clear hK K
       refine nS 14 ?_
       refine pS 3 15 HT_ ?_
       refine pS 4 16 HT_ ?_
       refine pU 5 17 HT_ ?_
       refine pU 6 18 HT_ ?_
       refine pU 7 19 HT_ ?_
       refine pU 8 20 HT_ ?_
       refine pU 9 21 HT_ ?_
       refine pU 10 22 HT_ ?_
       refine pU 11 23 HT_ ?_
       refine pU 12 24 HT_ ?_
       refine pU 13 25 HT_ ?_
       refine pU 14 26 HT_ ?_
       refine pU 15 27 HT_ ?_
       refine pU 16 28 HT_ ?_
       refine pU 17 29 HT_ ?_
       refine pU 18 30 HT_ ?_
       refine pU 19 31 HT_ ?_
       refine pU 20 32 HT_ ?_
       refine pU 21 33 HT_ ?_
       refine pU 22 34 HT_ ?_
       refine pU 23 35 HT_ ?_
       refine pU 24 36 HT_ ?_
       refine pU 25 37 HT_ ?_
       refine pU 26 38 HT_ ?_
       refine pU 27 39 HT_ ?_
       refine pS 28 40 HT_ ?_
       refine done_ (done_of HT_.out (by kernel_rfl)) ?_
       try go_wp2
       go_ret
       exact ⟨by first | rfl | (simp [errW_none, errW_some] <;> rfl) | (simp [*, errW_none, errW_some] <;> rfl), pxb HB⟩
     ·rw [if_neg c4] at H
      exact absurd H (by simp)
    ·rw [if_neg c3] at H
     exact absurd H (by simp)
   ·rw [if_neg c2] at H
    have c2b0 : decide (x7_1 < (l0.length : Int)) = false := decide_eq_false c2
    clear c2
    obtain rfl := Option.some.inj H
    go_wp2
    go_ret
    exact ⟨by first | rfl | (simp [errW_none, errW_some] <;> rfl) | (simp [*, errW_none, errW_some] <;> rfl), pxb HB⟩

end Go.Proofs.YtimhbepecnmjeaaDoor.X
