/- What the program's functions answer, as Lean functions, and that each call does just that; no condition. Written by a program (px.py) out of the translation. -/
import Derived.Test.YtmikdofplolmjaaGreatDoorX0
import Derived.Test.YtmikdofplolmjaaGreatDoorX4
import Derived.Test.YtmikdofplolmjaaGreatDoorX5
import Derived.Test.YtmikdofplolmjaaGreatDoorX6
import Derived.Test.YtmikdofplolmjaaGreatDoorM50
import Derived.Test.YtmikdofplolmjaaGreatDoorM44
import Derived.Test.YtmikdofplolmjaaGreatDoorM42
import Derived.Test.YtmikdofplolmjaaGreatDoorX14
import Derived.Test.YtmikdofplolmjaaGreatDoorM38
namespace Go.Proofs.YtmikdofplolmjaaGreatDoor.X
open Go.RowKit Go.Proofs.YtmikdofplolmjaaGreatDoorW.PrintWords Go.Proofs.YtmikdofplolmjaaGreatDoorW.PrintLast Go.Proofs.YtmikdofplolmjaaGreatDoorW.PrintMore
attribute [local go_sem] max2_int min2_int max_two min_two max_three min_three max_four min_four   -- for this text's walks alone
set_option linter.unusedVariables false
set_option linter.unusedSimpArgs false

/-! ### caulkertop_WholeTokens: function 3 -/
mutual
def caulkertop_WholeTokens.j0 : Nat → ByteArray → Bool → Option (Bool)
 | 0, _, _ => none
 | k + 1, x0, x31 => if x31 = true then (none) else (if (x0.size : Int) > 2000 then (some true) else ((lex_Lex.f x0).bind fun bt159 => (if bt159.2.1 = 0 then (caulkertop_WholeTokens.l0 k x0 bt159.1 (bt159.1.length : Int) 0) else (some ((bt159.1.length : Int) == 0)))))
def caulkertop_WholeTokens.l0 : Nat → ByteArray → List (S33) → Int → Int → Option (Bool)
 | 0, _, _, _, _ => none
 | k + 1, x0, x46, x47, x48 => if x48 < x47 then (if 0 ≤ x48 then (if x48 < (x46.length : Int) then ((lex_Say.f x0 ((rd_T33 x46 x48).f0) ((rd_T33 x46 x48).f1.f0) ((rd_T33 x46 x48).f1.f1)).bind fun t167 => (if ((rd_T33 x46 x48).f0) = 2 then ((num_Int.f t167).bind fun bt168 => (if bt168.1 < 0 then (none) else (if bt168.2 = 0 then (caulkertop_WholeTokens.l0 k x0 x46 x47 (wrap64 (x48 + 1))) else (if bt168.2 = 1 then (caulkertop_WholeTokens.l0 k x0 x46 x47 (wrap64 (x48 + 1))) else (if bt168.2 = 5 then (if 0 < (t167.size : Int) then (if (bt t167 0) = 48 then (if ((t167.size : Int) > 1) then (caulkertop_WholeTokens.l0 k x0 x46 x47 (wrap64 (x48 + 1))) else (none)) else (none)) else (none)) else (none)))))) else (if ((rd_T33 x46 x48).f0) = 3 then ((num_Float.f t167).bind fun bt170 => (if bt170.2 = 0 then (caulkertop_WholeTokens.j2 k x0 bt170.1 x46 x47 x48 false) else (if bt170.2 = 2 then (caulkertop_WholeTokens.j2 k x0 bt170.1 x46 x47 x48 false) else (if bt170.2 = 5 then (if 0 < (t167.size : Int) then (caulkertop_WholeTokens.j2 k x0 bt170.1 x46 x47 x48 (!((bt t167 0) == 48))) else (none)) else (caulkertop_WholeTokens.j2 k x0 bt170.1 x46 x47 x48 (!false)))))) else (if ((rd_T33 x46 x48).f0) = 4 then ((lex_Unquote.f t167).bind fun bt178 => ((lex_Quote.f bt178.1).bind fun bt180 => ((lex_Unquote.f bt180.1).bind fun bt182 => (if (wrap64 ((wrap64 (bt178.2 + bt180.2)) + bt182.2)) = 0 then (if bt178.1.toList = bt182.1.toList then (caulkertop_WholeTokens.l0 k x0 x46 x47 (wrap64 (x48 + 1))) else (none)) else (none))))) else (if ((rd_T33 x46 x48).f0) = 1 then ((lex_Name.f k t167).bind fun t184 => ((lex_Kept.f t167).bind fun t185 => (if (t184 == t185) = true then (none) else (caulkertop_WholeTokens.l0 k x0 x46 x47 (wrap64 (x48 + 1)))))) else (caulkertop_WholeTokens.l0 k x0 x46 x47 (wrap64 (x48 + 1)))))))) else (none)) else (none)) else (some true)
def caulkertop_WholeTokens.j2 : Nat → ByteArray → Int → List (S33) → Int → Int → Bool → Option (Bool)
 | 0, _, _, _, _, _, _ => none
 | k + 1, x0, x12, x46, x47, x48, x111 => if x111 = true then (none) else ((num_ToInt.f x12).bind fun t172 => ((num_ToFloat.f t172).bind fun t173 => ((num_FloatCompare.f (⟨#[60]⟩ : ByteArray) x12 t173).bind fun bt174 => (if bt174.1 = true then (none) else ((num_FloatNeg.f x12).bind fun t176 => ((num_FloatNeg.f t176).bind fun t177 => (if t177 = x12 then (caulkertop_WholeTokens.l0 k x0 x46 x47 (wrap64 (x48 + 1))) else (none))))))))
end
def caulkertop_WholeTokens.f (k : Nat) (a0 : ByteArray) : Option (Bool) := (num_Int.f (⟨#[49, 50]⟩ : ByteArray)).bind fun bt157 => (if bt157.1 = 12 then (caulkertop_WholeTokens.j0 k a0 (bt157.2 != 0)) else (caulkertop_WholeTokens.j0 k a0 true))
theorem caulkertop_WholeTokens.mono_l : ∀ k, (∀ y0 y1, LeO (caulkertop_WholeTokens.j0 k y0 y1) (caulkertop_WholeTokens.j0 (k + 1) y0 y1)) ∧ (∀ y0 y1 y2 y3, LeO (caulkertop_WholeTokens.l0 k y0 y1 y2 y3) (caulkertop_WholeTokens.l0 (k + 1) y0 y1 y2 y3)) ∧ (∀ y0 y1 y2 y3 y4 y5, LeO (caulkertop_WholeTokens.j2 k y0 y1 y2 y3 y4 y5) (caulkertop_WholeTokens.j2 (k + 1) y0 y1 y2 y3 y4 y5))
 | 0 => ⟨fun _ _ r h => by simp [caulkertop_WholeTokens.j0] at h, fun _ _ _ _ r h => by simp [caulkertop_WholeTokens.l0] at h, fun _ _ _ _ _ _ r h => by simp [caulkertop_WholeTokens.j2] at h⟩
 | k + 1 => by
  obtain ⟨ih0, ih1, ih2⟩ := caulkertop_WholeTokens.mono_l k
  refine ⟨?_, ?_, ?_⟩
  ·intro y0 y1
   unfold caulkertop_WholeTokens.j0
   repeat' first
   | (with_reducible exact ih0 _ _)
   | (with_reducible exact ih1 _ _ _ _)
   | (with_reducible exact ih2 _ _ _ _ _ _)
   | (with_reducible exact lex_Name.mono _ _)
   | (with_reducible exact LeO.refl _)
   | (with_reducible exact LeO.none _)
   | (with_reducible refine LeO.ite ?_ ?_)
   | (with_reducible refine LeO.bind ?_ (fun _ => ?_))
   | exact ih0 _ _
   | exact ih1 _ _ _ _
   | exact ih2 _ _ _ _ _ _
   | exact lex_Name.mono _ _
   | exact LeO.none _
   | refine LeO.ite ?_ ?_
   | refine LeO.bind ?_ (fun _ => ?_)
  ·intro y0 y1 y2 y3
   unfold caulkertop_WholeTokens.l0
   repeat' first
   | (with_reducible exact ih0 _ _)
   | (with_reducible exact ih1 _ _ _ _)
   | (with_reducible exact ih2 _ _ _ _ _ _)
   | (with_reducible exact lex_Name.mono _ _)
   | (with_reducible exact LeO.refl _)
   | (with_reducible exact LeO.none _)
   | (with_reducible refine LeO.ite ?_ ?_)
   | (with_reducible refine LeO.bind ?_ (fun _ => ?_))
   | exact ih0 _ _
   | exact ih1 _ _ _ _
   | exact ih2 _ _ _ _ _ _
   | exact lex_Name.mono _ _
   | exact LeO.none _
   | refine LeO.ite ?_ ?_
   | refine LeO.bind ?_ (fun _ => ?_)
  ·intro y0 y1 y2 y3 y4 y5
   unfold caulkertop_WholeTokens.j2
   repeat' first
   | (with_reducible exact ih0 _ _)
   | (with_reducible exact ih1 _ _ _ _)
   | (with_reducible exact ih2 _ _ _ _ _ _)
   | (with_reducible exact lex_Name.mono _ _)
   | (with_reducible exact LeO.refl _)
   | (with_reducible exact LeO.none _)
   | (with_reducible refine LeO.ite ?_ ?_)
   | (with_reducible refine LeO.bind ?_ (fun _ => ?_))
   | exact ih0 _ _
   | exact ih1 _ _ _ _
   | exact ih2 _ _ _ _ _ _
   | exact lex_Name.mono _ _
   | exact LeO.none _
   | refine LeO.ite ?_ ?_
   | refine LeO.bind ?_ (fun _ => ?_)
theorem caulkertop_WholeTokens.mono : ∀ a0 k, LeO (caulkertop_WholeTokens.f k a0) (caulkertop_WholeTokens.f (k + 1) a0) := by
 intro a0 k
 obtain ⟨ih0, ih1, ih2⟩ := caulkertop_WholeTokens.mono_l k
 unfold caulkertop_WholeTokens.f
 repeat' first
   | (with_reducible exact ih0 _ _)
   | (with_reducible exact ih1 _ _ _ _)
   | (with_reducible exact ih2 _ _ _ _ _ _)
   | (with_reducible exact lex_Name.mono _ _)
   | (with_reducible exact LeO.refl _)
   | (with_reducible exact LeO.none _)
   | (with_reducible refine LeO.ite ?_ ?_)
   | (with_reducible refine LeO.bind ?_ (fun _ => ?_))
   | exact ih0 _ _
   | exact ih1 _ _ _ _
   | exact ih2 _ _ _ _ _ _
   | exact lex_Name.mono _ _
   | exact LeO.none _
   | refine LeO.ite ?_ ?_
   | refine LeO.bind ?_ (fun _ => ?_)
set_option maxHeartbeats 8000000 in
set_option maxRecDepth 100000 in
theorem caulkertop_WholeTokens.calls (k : Nat) (a0 : ByteArray) (r : Bool) (w : World) (h : caulkertop_WholeTokens.f k a0 = some r) (hgv : LexW.GV w) :
  Calls Tryz.prog 3 #[.string a0] w fun e w' => e = .returned (.bool r) ∧ Below w.heap.size w w' := by
 have HGV := Aside0.mk hgv
 clear hgv
 have hu27 := Tryz.underlying27
 have hu33 := Tryz.underlying33
 have HB := Aside0.mk (Below.refl w.heap.size w)
 have H : ((num_Int.f (⟨#[49, 50]⟩ : ByteArray)).bind fun bt157 => (if bt157.1 = 12 then (caulkertop_WholeTokens.j0 k a0 (bt157.2 != 0)) else (caulkertop_WholeTokens.j0 k a0 true))) = some r := h
 clear h
 replace H := Option.bind_eq_some_iff.mp H
 obtain ⟨⟨t157, t158⟩, A20, H⟩ := H
 replace H : (if t157 = 12 then (caulkertop_WholeTokens.j0 k a0 (t158 != 0)) else (caulkertop_WholeTokens.j0 k a0 true)) = some r := H
 have A2 := Aside0.mk A20
 clear A20
 have HC3 := Aside0.mk H
 clear H
 go_enter Tryz.func3, Tryz.ntmps3
 go_upto_region 2 with (first | ((with_reducible refine gate_callee (f := 4) rfl ?_); refine goesL_ (some 23) rfl rfl Tryz.func4 (by kernel_rfl) rfl #[.string (⟨#[49, 50]⟩ : ByteArray)] rfl (by (try simp only [List.map_toArray, List.map_cons, List.map_nil]); first | done | rfl | (simp only [List.length_drop, List.length_take]; rfl)) ?_; (with_reducible refine (num_Int.calls (⟨#[49, 50]⟩ : ByteArray) t157 t158 _ A2.out ?gv).mono ?_); (case gv => first | exact LexW.GV.later HGV.out (pxb HB) | (repeat (first | exact HGV.out | apply LexW.GV.drewN))); rintro e w4 ⟨rfl, hb⟩; refine ⟨_, rfl, ?_⟩; have n0_ := pxs HB hb; clear HB; have HB := n0_; clear n0_; (try clear hb); (try clear hb2); (try clear hk); (try clear hi)))
 (try simp only [Act.put, List.setIfInBounds_toArray, List.set_cons_zero, List.set_cons_succ])
 go_cut [31] (fun v31 wc => ∃ (kq : Nat) (x31_2 : Bool), v31 = .bool x31_2 ∧ Aside0 (caulkertop_WholeTokens.j0 kq a0 x31_2 = some r) ∧ Aside0 (kq ≤ k) ∧ Aside0 (Below w.heap.size w wc))
 case first =>
  have H := HC3.out
  clear HC3
  by_cases c5 : t157 = 12
  ·rw [if_pos c5] at H
   have c5b0 : (t157 == 12) = true := beq_iff_eq.mpr c5
   have c5b1 : (t157 != 12) = false := bne_eq_false_iff_eq.mpr c5
   clear c5
   (first | rw [c5b0] | (simp only [i64_w, i32_w]; rw [c5b0]) | skip)
   have H' := Aside0.mk H
   clear H
   go_wp2
   go_meet
   case rel => exact ⟨_, ((t158 != 0)), (by first | rfl | (simp; done) | (simp [*]; done)), H', ⟨by first | omega | exact Nat.le_refl _⟩, ⟨pxb HB⟩⟩
  ·rw [if_neg c5] at H
   have c5b0 : (t157 == 12) = false := beq_eq_false_iff_ne.mpr c5
   have c5b1 : (t157 != 12) = true := bne_iff_ne.mpr c5
   (first | rw [c5b0] | (simp only [i64_w, i32_w]; rw [c5b0]) | skip)
   have H' := Aside0.mk H
   clear H
   go_wp2
   go_meet
   case rel => exact ⟨_, (true), (by first | rfl | (simp; done) | (simp [*]; done)), H', ⟨by first | omega | exact Nat.le_refl _⟩, ⟨pxb HB⟩⟩
 case rest =>
  clear HC3
  try clear p2
  try clear c3
  try clear c4
  try clear c5
  try clear c5b0
  try clear c5b1
  obtain ⟨kq, x31_2, rfl, HA, HJ2, HB⟩ := hcut
  cases kq with
  | zero => exact absurd HA.out (by simp [caulkertop_WholeTokens.j0])
  | succ kj2 =>
   have H := HA.out
   clear HA
   simp only [caulkertop_WholeTokens.j0] at H
   by_cases c6 : x31_2 = true
   ·subst c6
    have H1 : (none) = some r := by rw [if_pos rfl] at H; exact H
    clear H
    have H := H1
    clear H1
    exact absurd H (by simp)
   ·replace c6 := Bool.eq_false_iff.mpr c6
    subst c6
    have H1 : (if (a0.size : Int) > 2000 then (some true) else ((lex_Lex.f a0).bind fun bt159 => (if bt159.2.1 = 0 then (caulkertop_WholeTokens.l0 kj2 a0 bt159.1 (bt159.1.length : Int) 0) else (some ((bt159.1.length : Int) == 0))))) = some r := by rw [if_neg (show ¬ (false = true) by decide)] at H; exact H
    clear H
    have H := H1
    clear H1
    by_cases c7 : (a0.size : Int) > 2000
    ·rw [if_pos c7] at H
     have c7b0 : decide (2000 < (a0.size : Int)) = true := decide_eq_true c7
     have c7b1 : decide (2000 < a0.size) = true := decide_eq_true (by omega)
     clear c7
     obtain rfl := Option.some.inj H
     go_wp2
     go_ret
     exact ⟨by first | rfl | (simp [errW_none, errW_some] <;> rfl) | (simp [*, errW_none, errW_some] <;> rfl), pxb HB⟩
    ·rw [if_neg c7] at H
     have c7b0 : decide (2000 < (a0.size : Int)) = false := decide_eq_false c7
     have c7b1 : decide (2000 < a0.size) = false := decide_eq_false (by omega)
     clear c7
     replace H := Option.bind_eq_some_iff.mp H
     obtain ⟨⟨t159, t162, t163⟩, A80, H⟩ := H
     replace H : (if t162 = 0 then (caulkertop_WholeTokens.l0 kj2 a0 t159 (t159.length : Int) 0) else (some ((t159.length : Int) == 0))) = some r := H
     have A8 := Aside0.mk A80
     clear A80
     by_cases c9 : t162 = 0
     ·rw [if_pos c9] at H
      have c9b0 : (t162 == 0) = true := beq_iff_eq.mpr c9
      have c9b1 : (t162 != 0) = false := bne_eq_false_iff_eq.mpr c9
      clear c9
      have H' := Aside0.mk H
      clear H
      go_wp2_with (first | ((with_reducible refine gate_callee (f := 5) rfl ?_); refine goesL_ (some 37) rfl rfl Tryz.func5 (by kernel_rfl) rfl #[.string a0] rfl (by (try simp only [List.map_toArray, List.map_cons, List.map_nil]); first | done | rfl | (simp only [List.length_drop, List.length_take]; rfl)) ?_; (with_reducible refine (lex_Lex.calls a0 t159 t162 t163 _ A8.out ?gv).mono ?_); (case gv => first | exact LexW.GV.later HGV.out (pxb HB) | (repeat (first | exact HGV.out | apply LexW.GV.drewN))); rintro e w10 ⟨v160, rfl, ho0, hb⟩; refine ⟨_, rfl, ?_⟩; have n0_ := Aside0.mk (Kd.R_lower ho0 (below_size (pxb HB))); have n1_ := pxs HB hb; clear HB; have HO161 := n0_; have HB := n1_; clear n0_ n1_; (try clear hb); (try clear hb2); (try clear hk); (try clear hi); (try clear ho0)) | ((with_reducible refine gate_dst (N := 6) rfl ?_); refine box_event ?hg (N := 6) ?hd (cs := #[.int .i64 0, .int .i64 0]) (t := 27) ?hr ?_; (case hd => rfl); (case hg => rfl); (case hr => first | (go_simp; done) | (go_simp; rfl)); intro gb164 hg w11 hbox hb; have n0_ := Aside0.mk (Kd.R_below (pxr HO161) hb); have n1_ := pxs HB hb; have n2_ := Aside0.mk (hbox); have n3_ := Aside0.mk ((by rw [hg]; exact (below_size (pxb HB)) : w.heap.size ≤ gb164)); have n4_ := Aside0.mk ((by rw [hg]; exact (below_size (pxb HB)) : w.heap.size ≤ gb164)); clear HO161; clear HB; have HO161 := n0_; have HB := n1_; have BK164 := n2_; have GW164 := n3_; have GE164 := n4_; clear n0_ n1_ n2_ n3_ n4_; clear hb hbox hg; have hcz12_0 : w11.cell? ⟨gb164, 0, none⟩ = some (.int .i64 0) := (blk_cell BK164.out 0).trans rfl; have hcz12_1 : w11.cell? ⟨gb164, 1, none⟩ = some (.int .i64 0) := (blk_cell BK164.out 1).trans rfl; have hfz12_0 := blk_frozen BK164.out 0; have hfz12_1 := blk_frozen BK164.out 1; obtain ⟨Ao13, co13, eo13⟩ := Kd.R_slice HO161.out; subst eo13))
      go_loopg [48] kj2 (fun kq v48 w' => ∃ (x48_2 : Int), v48 = .int .i64 x48_2 ∧ Aside0 (caulkertop_WholeTokens.l0 kq a0 t159 (t159.length : Int) x48_2 = some r) ∧ Aside0 (kq ≤ kj2) ∧ Aside0 (Kd.R k33 33 w' w.heap.size (fun _ => True) (.slice Ao13 t159.length co13) t159) ∧ Aside0 (w'.heap[gb164]? = some (.cells #[.int .i64 t162, .int .i64 t163] 27 (0, 0))) ∧ Aside0 (Below w.heap.size w w'))
      case atStart => exact ⟨(0), (by first | rfl | (simp; done) | (simp [*]; done)), H', ⟨Nat.le_refl _⟩, ⟨by (with_reducible repeat (first | apply Kd.R_alloc | apply Kd.R_drewN | apply Kd.R_drew)); exact Kd.R_mono (Kd.R_far (p := ⟨gb164, 1, none⟩) (Kd.R_far (p := ⟨gb164, 0, none⟩) (Kd.R_types HO161.out BK164.out (by decide)) (fun _ hk => hk.2) (.int .i64 t162)) (fun _ hk => hk.2) (.int .i64 t163)) (fun _ hk => trivial)⟩, ⟨by (with_reducible repeat (first | refine blk_drewN ?_ _ | refine blk_drew ?_ | refine blk_alloc ?_ _)); refine blk_put (cs := #[.int .i64 t162, .int .i64 0]) ?_ 1 _ rfl; (with_reducible repeat (first | refine blk_drewN ?_ _ | refine blk_drew ?_ | refine blk_alloc ?_ _)); refine blk_put (cs := #[.int .i64 0, .int .i64 0]) ?_ 0 _ rfl; (with_reducible repeat (first | refine blk_drewN ?_ _ | refine blk_drew ?_ | refine blk_alloc ?_ _)); exact BK164.out⟩, ⟨pxb HB⟩⟩
      case round =>
       clear H'
       try clear p2
       try clear c3
       try clear c4
       try clear c5
       try clear c5b0
       try clear c5b1
       try clear c6
       try clear c7
       try clear c7b0
       try clear c7b1
       try clear c9
       try clear c9b0
       try clear c9b1
       try clear hcz12_0
       try clear hcz12_1
       try clear hfz12_0
       try clear hfz12_1
       try clear p2
       obtain ⟨x48_2, rfl, HA, HK2, HO_46, BK164, HB⟩ := hrel
       cases gk with
       | zero => exact absurd HA.out (by simp [caulkertop_WholeTokens.l0])
       | succ k2 =>
        have H := HA.out
        clear HA
        simp only [caulkertop_WholeTokens.l0] at H
        by_cases c14 : x48_2 < (t159.length : Int)
        ·rw [if_pos c14] at H
         have c14b0 : decide (x48_2 < (t159.length : Int)) = true := decide_eq_true c14
         clear c14
         by_cases c15 : 0 ≤ x48_2
         ·rw [if_pos c15] at H
          have c15b0 : decide (0 ≤ x48_2) = true := decide_eq_true c15
          clear c15
          by_cases c16 : x48_2 < (t159.length : Int)
          ·rw [if_pos c16] at H
           have c16b0 : decide (x48_2 < (t159.length : Int)) = true := decide_eq_true c16
           clear c16
           replace H := Option.bind_eq_some_iff.mp H
           obtain ⟨t167, A170, H⟩ := H
           replace H : (if ((rd_T33 t159 x48_2).f0) = 2 then ((num_Int.f t167).bind fun bt168 => (if bt168.1 < 0 then (none) else (if bt168.2 = 0 then (caulkertop_WholeTokens.l0 k2 a0 t159 (t159.length : Int) (wrap64 (x48_2 + 1))) else (if bt168.2 = 1 then (caulkertop_WholeTokens.l0 k2 a0 t159 (t159.length : Int) (wrap64 (x48_2 + 1))) else (if bt168.2 = 5 then (if 0 < (t167.size : Int) then (if (bt t167 0) = 48 then (if ((t167.size : Int) > 1) then (caulkertop_WholeTokens.l0 k2 a0 t159 (t159.length : Int) (wrap64 (x48_2 + 1))) else (none)) else (none)) else (none)) else (none)))))) else (if ((rd_T33 t159 x48_2).f0) = 3 then ((num_Float.f t167).bind fun bt170 => (if bt170.2 = 0 then (caulkertop_WholeTokens.j2 k2 a0 bt170.1 t159 (t159.length : Int) x48_2 false) else (if bt170.2 = 2 then (caulkertop_WholeTokens.j2 k2 a0 bt170.1 t159 (t159.length : Int) x48_2 false) else (if bt170.2 = 5 then (if 0 < (t167.size : Int) then (caulkertop_WholeTokens.j2 k2 a0 bt170.1 t159 (t159.length : Int) x48_2 (!((bt t167 0) == 48))) else (none)) else (caulkertop_WholeTokens.j2 k2 a0 bt170.1 t159 (t159.length : Int) x48_2 (!false)))))) else (if ((rd_T33 t159 x48_2).f0) = 4 then ((lex_Unquote.f t167).bind fun bt178 => ((lex_Quote.f bt178.1).bind fun bt180 => ((lex_Unquote.f bt180.1).bind fun bt182 => (if (wrap64 ((wrap64 (bt178.2 + bt180.2)) + bt182.2)) = 0 then (if bt178.1.toList = bt182.1.toList then (caulkertop_WholeTokens.l0 k2 a0 t159 (t159.length : Int) (wrap64 (x48_2 + 1))) else (none)) else (none))))) else (if ((rd_T33 t159 x48_2).f0) = 1 then ((lex_Name.f k2 t167).bind fun t184 => ((lex_Kept.f t167).bind fun t185 => (if (t184 == t185) = true then (none) else (caulkertop_WholeTokens.l0 k2 a0 t159 (t159.length : Int) (wrap64 (x48_2 + 1)))))) else (caulkertop_WholeTokens.l0 k2 a0 t159 (t159.length : Int) (wrap64 (x48_2 + 1))))))) = some r := H
           have A17 := Aside0.mk A170
           clear A170
           by_cases c18 : ((rd_T33 t159 x48_2).f0) = 2
           ·rw [if_pos c18] at H
            have c18b0 : (((rd_T33 t159 x48_2).f0) == 2) = true := beq_iff_eq.mpr c18
            have c18b1 : (((rd_T33 t159 x48_2).f0) != 2) = false := bne_eq_false_iff_eq.mpr c18
            clear c18
            replace H := Option.bind_eq_some_iff.mp H
            obtain ⟨⟨t168, t169⟩, A190, H⟩ := H
            replace H : (if t168 < 0 then (none) else (if t169 = 0 then (caulkertop_WholeTokens.l0 k2 a0 t159 (t159.length : Int) (wrap64 (x48_2 + 1))) else (if t169 = 1 then (caulkertop_WholeTokens.l0 k2 a0 t159 (t159.length : Int) (wrap64 (x48_2 + 1))) else (if t169 = 5 then (if 0 < (t167.size : Int) then (if (bt t167 0) = 48 then (if ((t167.size : Int) > 1) then (caulkertop_WholeTokens.l0 k2 a0 t159 (t159.length : Int) (wrap64 (x48_2 + 1))) else (none)) else (none)) else (none)) else (none))))) = some r := H
            have A19 := Aside0.mk A190
            clear A190
            by_cases c20 : t168 < 0
            ·rw [if_pos c20] at H
             exact absurd H (by simp)
            ·rw [if_neg c20] at H
             have c20b0 : decide (t168 < 0) = false := decide_eq_false c20
             clear c20
             by_cases c21 : t169 = 0
             ·rw [if_pos c21] at H
              have c21b0 : (t169 == 0) = true := beq_iff_eq.mpr c21
              have c21b1 : (t169 != 0) = false := bne_eq_false_iff_eq.mpr c21
              clear c21
              have H' := Aside0.mk H
              clear H
              have p165 : 0 ≤ (x48_2 : Int) := of_decide_eq_true (by first | (with_reducible assumption) | assumption)
              have q165 : x48_2 < (t159.length : Int) := of_decide_eq_true (by first | (with_reducible assumption) | assumption)
              obtain ⟨ad165, e165, hx165_0, hx165_1, hx165_2⟩ := at_T33 (Kd.R_reads' HO_46.out).2.2 x48_2 p165 q165
              cases e165
              replace p165 := eq_true p165
              replace q165 := eq_true q165
              go_wp2_with (first | ((with_reducible refine gate_dst (N := 8) rfl ?_); refine box_event ?hg (N := 8) ?hd (cs := #[.int .i64 0, .int .i64 0, .int .i64 0]) (t := 33) ?hr ?_; (case hd => rfl); (case hg => rfl); (case hr => first | (go_simp; done) | (go_simp; rfl)); intro gb166 hg w22 hbox hb; have n0_ := Aside0.mk (Kd.R_below (Kd.R_elderB (pxr HO_46) gb166 (Nat.le_of_eq hg.symm)) hb); have n1_ := pxk BK164 hb; have n2_ := pxs HB hb; have n3_ := Aside0.mk (hbox); have n4_ := Aside0.mk ((by rw [hg]; exact (below_size (pxb HB)) : w.heap.size ≤ gb166)); have n5_ := Aside0.mk ((by rw [hg]; exact (below_size (pxb HB)) : w.heap.size ≤ gb166)); have n6_ := Aside0.mk ((by rw [hg]; exact Nat.ne_of_lt (blk_lt (g := gb164) (o := .cells #[.int .i64 t162, .int .i64 t163] 27 (0, 0)) (pxq BK164)) : gb164 ≠ gb166)); have n7_ := Aside0.mk ((by rw [hg]; exact Nat.ne_of_gt (blk_lt (g := gb164) (o := .cells #[.int .i64 t162, .int .i64 t163] 27 (0, 0)) (pxq BK164)) : gb166 ≠ gb164)); clear HO_46; clear BK164; clear HB; have HO_46 := n0_; have BK164 := n1_; have HB := n2_; have BK166 := n3_; have GW166 := n4_; have GE166 := n5_; have NB164_166 := n6_; have NB166_164 := n7_; clear n0_ n1_ n2_ n3_ n4_ n5_ n6_ n7_; clear hb hbox hg; have hnb23 := NB166_164.out; have hnc23 := NB164_166.out; have hcz24_0 : w22.cell? ⟨gb166, 0, none⟩ = some (.int .i64 0) := (blk_cell BK166.out 0).trans rfl; have hcz24_1 : w22.cell? ⟨gb166, 1, none⟩ = some (.int .i64 0) := (blk_cell BK166.out 1).trans rfl; have hcz24_2 : w22.cell? ⟨gb166, 2, none⟩ = some (.int .i64 0) := (blk_cell BK166.out 2).trans rfl; have hfz24_0 := blk_frozen BK166.out 0; have hfz24_1 := blk_frozen BK166.out 1; have hfz24_2 := blk_frozen BK166.out 2) | ((with_reducible refine gate_callee (f := 6) rfl ?_); refine goesL_ (some 54) rfl rfl Tryz.func6 (by kernel_rfl) rfl #[.string a0, .agg #[.int .i64 ((rd_T33 t159 x48_2).f0), .int .i64 ((rd_T33 t159 x48_2).f1.f0), .int .i64 ((rd_T33 t159 x48_2).f1.f1)]] rfl (by (try simp only [List.map_toArray, List.map_cons, List.map_nil]); first | done | rfl | (simp only [List.length_drop, List.length_take]; rfl)) ?_; (with_reducible refine (lex_Say.calls a0 ((rd_T33 t159 x48_2).f0) ((rd_T33 t159 x48_2).f1.f0) ((rd_T33 t159 x48_2).f1.f1) t167 _ A17.out).mono ?_); rintro e w25 ⟨rfl, hb⟩; refine ⟨_, rfl, ?_⟩; have n0_ := Aside0.mk (Kd.R_below (by (with_reducible repeat (first | apply Kd.R_alloc | apply Kd.R_drewN | apply Kd.R_drew)); exact (Kd.R_mono (Kd.R_far (p := ⟨gb166, 2, none⟩) (Kd.R_far (p := ⟨gb166, 1, none⟩) (Kd.R_far (p := ⟨gb166, 0, none⟩) (Kd.R_mono HO_46.out (fun k_ hk => (⟨hk, hk.2⟩ : _ ∧ k_ ≠ gb166))) (fun _ hk => hk.2) (.int .i64 ((rd_T33 t159 x48_2).f0))) (fun _ hk => hk.2) (.int .i64 ((rd_T33 t159 x48_2).f1.f0))) (fun _ hk => hk.2) (.int .i64 ((rd_T33 t159 x48_2).f1.f1))) (fun _ h_ => h_.1))) hb); have n1_ := Aside0.mk (blk_below (g := gb164) (o := .cells #[.int .i64 t162, .int .i64 t163] 27 (0, 0)) (by (with_reducible repeat (first | refine blk_drewN ?_ _ | refine blk_drew ?_ | refine blk_alloc ?_ _)); refine blk_far ?_ NB164_166.out _; (with_reducible repeat (first | refine blk_drewN ?_ _ | refine blk_drew ?_ | refine blk_alloc ?_ _)); refine blk_far ?_ NB164_166.out _; (with_reducible repeat (first | refine blk_drewN ?_ _ | refine blk_drew ?_ | refine blk_alloc ?_ _)); refine blk_far ?_ NB164_166.out _; (with_reducible repeat (first | refine blk_drewN ?_ _ | refine blk_drew ?_ | refine blk_alloc ?_ _)); exact BK164.out) hb); have n2_ := Aside0.mk (blk_below (g := gb166) (o := .cells #[.int .i64 ((rd_T33 t159 x48_2).f0), .int .i64 ((rd_T33 t159 x48_2).f1.f0), .int .i64 ((rd_T33 t159 x48_2).f1.f1)] 33 (0, 0)) (by (with_reducible repeat (first | refine blk_drewN ?_ _ | refine blk_drew ?_ | refine blk_alloc ?_ _)); refine blk_put (cs := #[.int .i64 ((rd_T33 t159 x48_2).f0), .int .i64 ((rd_T33 t159 x48_2).f1.f0), .int .i64 0]) ?_ 2 _ rfl; (with_reducible repeat (first | refine blk_drewN ?_ _ | refine blk_drew ?_ | refine blk_alloc ?_ _)); refine blk_put (cs := #[.int .i64 ((rd_T33 t159 x48_2).f0), .int .i64 0, .int .i64 0]) ?_ 1 _ rfl; (with_reducible repeat (first | refine blk_drewN ?_ _ | refine blk_drew ?_ | refine blk_alloc ?_ _)); refine blk_put (cs := #[.int .i64 0, .int .i64 0, .int .i64 0]) ?_ 0 _ rfl; (with_reducible repeat (first | refine blk_drewN ?_ _ | refine blk_drew ?_ | refine blk_alloc ?_ _)); exact BK166.out) hb); have n3_ := pxs HB hb; clear HO_46; clear BK164; clear BK166; clear HB; have HO_46 := n0_; have BK164 := n1_; have BK166 := n2_; have HB := n3_; clear n0_ n1_ n2_ n3_; (try clear hb); (try clear hb2); (try clear hk); (try clear hi); have hcz26_0 : w25.cell? ⟨gb166, 0, none⟩ = some (.int .i64 ((rd_T33 t159 x48_2).f0)) := (blk_cell BK166.out 0).trans rfl; have hcz26_1 : w25.cell? ⟨gb166, 1, none⟩ = some (.int .i64 ((rd_T33 t159 x48_2).f1.f0)) := (blk_cell BK166.out 1).trans rfl; have hcz26_2 : w25.cell? ⟨gb166, 2, none⟩ = some (.int .i64 ((rd_T33 t159 x48_2).f1.f1)) := (blk_cell BK166.out 2).trans rfl; have hfz26_0 := blk_frozen BK166.out 0; have hfz26_1 := blk_frozen BK166.out 1; have hfz26_2 := blk_frozen BK166.out 2) | ((with_reducible refine gate_callee (f := 4) rfl ?_); refine goesL_ (some 61) rfl rfl Tryz.func4 (by kernel_rfl) rfl #[.string t167] rfl (by (try simp only [List.map_toArray, List.map_cons, List.map_nil]); first | done | rfl | (simp only [List.length_drop, List.length_take]; rfl)) ?_; (with_reducible refine (num_Int.calls t167 t168 t169 _ A19.out ?gv).mono ?_); (case gv => first | exact LexW.GV.later HGV.out (pxb HB) | (repeat (first | exact HGV.out | apply LexW.GV.drewN))); rintro e w27 ⟨rfl, hb⟩; refine ⟨_, rfl, ?_⟩; have n0_ := Aside0.mk (Kd.R_below (pxr HO_46) hb); have n1_ := pxk BK164 hb; have n2_ := pxk BK166 hb; have n3_ := pxs HB hb; clear HO_46; clear BK164; clear BK166; clear HB; have HO_46 := n0_; have BK164 := n1_; have BK166 := n2_; have HB := n3_; clear n0_ n1_ n2_ n3_; (try clear hb); (try clear hb2); (try clear hk); (try clear hi)))
              go_roundg k2
              case measure => have := HJ2.out; have := HK2.out; omega
              case rel => exact ⟨(wrap64 (x48_2 + 1)), (by first | rfl | (simp; done) | (simp [*]; done)), H', ⟨by have := HJ2.out; have := HK2.out; omega⟩, ⟨by (with_reducible repeat (first | apply Kd.R_alloc | apply Kd.R_drewN | apply Kd.R_drew)); exact Kd.R_mono HO_46.out (fun _ hk => trivial)⟩, ⟨pxq BK164⟩, ⟨pxb HB⟩⟩
             ·rw [if_neg c21] at H
              have c21b0 : (t169 == 0) = false := beq_eq_false_iff_ne.mpr c21
              have c21b1 : (t169 != 0) = true := bne_iff_ne.mpr c21
              by_cases c28 : t169 = 1
              ·rw [if_pos c28] at H
               have c28b0 : (t169 == 1) = true := beq_iff_eq.mpr c28
               have c28b1 : (t169 != 1) = false := bne_eq_false_iff_eq.mpr c28
               clear c28
               have H' := Aside0.mk H
               clear H
               have p165 : 0 ≤ (x48_2 : Int) := of_decide_eq_true (by first | (with_reducible assumption) | assumption)
               have q165 : x48_2 < (t159.length : Int) := of_decide_eq_true (by first | (with_reducible assumption) | assumption)
               obtain ⟨ad165, e165, hx165_0, hx165_1, hx165_2⟩ := at_T33 (Kd.R_reads' HO_46.out).2.2 x48_2 p165 q165
               cases e165
               replace p165 := eq_true p165
               replace q165 := eq_true q165
               go_wp2_with (first | ((with_reducible refine gate_dst (N := 8) rfl ?_); refine box_event ?hg (N := 8) ?hd (cs := #[.int .i64 0, .int .i64 0, .int .i64 0]) (t := 33) ?hr ?_; (case hd => rfl); (case hg => rfl); (case hr => first | (go_simp; done) | (go_simp; rfl)); intro gb166 hg w29 hbox hb; have n0_ := Aside0.mk (Kd.R_below (Kd.R_elderB (pxr HO_46) gb166 (Nat.le_of_eq hg.symm)) hb); have n1_ := pxk BK164 hb; have n2_ := pxs HB hb; have n3_ := Aside0.mk (hbox); have n4_ := Aside0.mk ((by rw [hg]; exact (below_size (pxb HB)) : w.heap.size ≤ gb166)); have n5_ := Aside0.mk ((by rw [hg]; exact (below_size (pxb HB)) : w.heap.size ≤ gb166)); have n6_ := Aside0.mk ((by rw [hg]; exact Nat.ne_of_lt (blk_lt (g := gb164) (o := .cells #[.int .i64 t162, .int .i64 t163] 27 (0, 0)) (pxq BK164)) : gb164 ≠ gb166)); have n7_ := Aside0.mk ((by rw [hg]; exact Nat.ne_of_gt (blk_lt (g := gb164) (o := .cells #[.int .i64 t162, .int .i64 t163] 27 (0, 0)) (pxq BK164)) : gb166 ≠ gb164)); clear HO_46; clear BK164; clear HB; have HO_46 := n0_; have BK164 := n1_; have HB := n2_; have BK166 := n3_; have GW166 := n4_; have GE166 := n5_; have NB164_166 := n6_; have NB166_164 := n7_; clear n0_ n1_ n2_ n3_ n4_ n5_ n6_ n7_; clear hb hbox hg; have hnb30 := NB166_164.out; have hnc30 := NB164_166.out; have hcz31_0 : w29.cell? ⟨gb166, 0, none⟩ = some (.int .i64 0) := (blk_cell BK166.out 0).trans rfl; have hcz31_1 : w29.cell? ⟨gb166, 1, none⟩ = some (.int .i64 0) := (blk_cell BK166.out 1).trans rfl; have hcz31_2 : w29.cell? ⟨gb166, 2, none⟩ = some (.int .i64 0) := (blk_cell BK166.out 2).trans rfl; have hfz31_0 := blk_frozen BK166.out 0; have hfz31_1 := blk_frozen BK166.out 1; have hfz31_2 := blk_frozen BK166.out 2) | ((with_reducible refine gate_callee (f := 6) rfl ?_); refine goesL_ (some 54) rfl rfl Tryz.func6 (by kernel_rfl) rfl #[.string a0, .agg #[.int .i64 ((rd_T33 t159 x48_2).f0), .int .i64 ((rd_T33 t159 x48_2).f1.f0), .int .i64 ((rd_T33 t159 x48_2).f1.f1)]] rfl (by (try simp only [List.map_toArray, List.map_cons, List.map_nil]); first | done | rfl | (simp only [List.length_drop, List.length_take]; rfl)) ?_; (with_reducible refine (lex_Say.calls a0 ((rd_T33 t159 x48_2).f0) ((rd_T33 t159 x48_2).f1.f0) ((rd_T33 t159 x48_2).f1.f1) t167 _ A17.out).mono ?_); rintro e w32 ⟨rfl, hb⟩; refine ⟨_, rfl, ?_⟩; have n0_ := Aside0.mk (Kd.R_below (by (with_reducible repeat (first | apply Kd.R_alloc | apply Kd.R_drewN | apply Kd.R_drew)); exact (Kd.R_mono (Kd.R_far (p := ⟨gb166, 2, none⟩) (Kd.R_far (p := ⟨gb166, 1, none⟩) (Kd.R_far (p := ⟨gb166, 0, none⟩) (Kd.R_mono HO_46.out (fun k_ hk => (⟨hk, hk.2⟩ : _ ∧ k_ ≠ gb166))) (fun _ hk => hk.2) (.int .i64 ((rd_T33 t159 x48_2).f0))) (fun _ hk => hk.2) (.int .i64 ((rd_T33 t159 x48_2).f1.f0))) (fun _ hk => hk.2) (.int .i64 ((rd_T33 t159 x48_2).f1.f1))) (fun _ h_ => h_.1))) hb); have n1_ := Aside0.mk (blk_below (g := gb164) (o := .cells #[.int .i64 t162, .int .i64 t163] 27 (0, 0)) (by (with_reducible repeat (first | refine blk_drewN ?_ _ | refine blk_drew ?_ | refine blk_alloc ?_ _)); refine blk_far ?_ NB164_166.out _; (with_reducible repeat (first | refine blk_drewN ?_ _ | refine blk_drew ?_ | refine blk_alloc ?_ _)); refine blk_far ?_ NB164_166.out _; (with_reducible repeat (first | refine blk_drewN ?_ _ | refine blk_drew ?_ | refine blk_alloc ?_ _)); refine blk_far ?_ NB164_166.out _; (with_reducible repeat (first | refine blk_drewN ?_ _ | refine blk_drew ?_ | refine blk_alloc ?_ _)); exact BK164.out) hb); have n2_ := Aside0.mk (blk_below (g := gb166) (o := .cells #[.int .i64 ((rd_T33 t159 x48_2).f0), .int .i64 ((rd_T33 t159 x48_2).f1.f0), .int .i64 ((rd_T33 t159 x48_2).f1.f1)] 33 (0, 0)) (by (with_reducible repeat (first | refine blk_drewN ?_ _ | refine blk_drew ?_ | refine blk_alloc ?_ _)); refine blk_put (cs := #[.int .i64 ((rd_T33 t159 x48_2).f0), .int .i64 ((rd_T33 t159 x48_2).f1.f0), .int .i64 0]) ?_ 2 _ rfl; (with_reducible repeat (first | refine blk_drewN ?_ _ | refine blk_drew ?_ | refine blk_alloc ?_ _)); refine blk_put (cs := #[.int .i64 ((rd_T33 t159 x48_2).f0), .int .i64 0, .int .i64 0]) ?_ 1 _ rfl; (with_reducible repeat (first | refine blk_drewN ?_ _ | refine blk_drew ?_ | refine blk_alloc ?_ _)); refine blk_put (cs := #[.int .i64 0, .int .i64 0, .int .i64 0]) ?_ 0 _ rfl; (with_reducible repeat (first | refine blk_drewN ?_ _ | refine blk_drew ?_ | refine blk_alloc ?_ _)); exact BK166.out) hb); have n3_ := pxs HB hb; clear HO_46; clear BK164; clear BK166; clear HB; have HO_46 := n0_; have BK164 := n1_; have BK166 := n2_; have HB := n3_; clear n0_ n1_ n2_ n3_; (try clear hb); (try clear hb2); (try clear hk); (try clear hi); have hcz33_0 : w32.cell? ⟨gb166, 0, none⟩ = some (.int .i64 ((rd_T33 t159 x48_2).f0)) := (blk_cell BK166.out 0).trans rfl; have hcz33_1 : w32.cell? ⟨gb166, 1, none⟩ = some (.int .i64 ((rd_T33 t159 x48_2).f1.f0)) := (blk_cell BK166.out 1).trans rfl; have hcz33_2 : w32.cell? ⟨gb166, 2, none⟩ = some (.int .i64 ((rd_T33 t159 x48_2).f1.f1)) := (blk_cell BK166.out 2).trans rfl; have hfz33_0 := blk_frozen BK166.out 0; have hfz33_1 := blk_frozen BK166.out 1; have hfz33_2 := blk_frozen BK166.out 2) | ((with_reducible refine gate_callee (f := 4) rfl ?_); refine goesL_ (some 61) rfl rfl Tryz.func4 (by kernel_rfl) rfl #[.string t167] rfl (by (try simp only [List.map_toArray, List.map_cons, List.map_nil]); first | done | rfl | (simp only [List.length_drop, List.length_take]; rfl)) ?_; (with_reducible refine (num_Int.calls t167 t168 t169 _ A19.out ?gv).mono ?_); (case gv => first | exact LexW.GV.later HGV.out (pxb HB) | (repeat (first | exact HGV.out | apply LexW.GV.drewN))); rintro e w34 ⟨rfl, hb⟩; refine ⟨_, rfl, ?_⟩; have n0_ := Aside0.mk (Kd.R_below (pxr HO_46) hb); have n1_ := pxk BK164 hb; have n2_ := pxk BK166 hb; have n3_ := pxs HB hb; clear HO_46; clear BK164; clear BK166; clear HB; have HO_46 := n0_; have BK164 := n1_; have BK166 := n2_; have HB := n3_; clear n0_ n1_ n2_ n3_; (try clear hb); (try clear hb2); (try clear hk); (try clear hi)))
               go_roundg k2
               case measure => have := HJ2.out; have := HK2.out; omega
               case rel => exact ⟨(wrap64 (x48_2 + 1)), (by first | rfl | (simp; done) | (simp [*]; done)), H', ⟨by have := HJ2.out; have := HK2.out; omega⟩, ⟨by (with_reducible repeat (first | apply Kd.R_alloc | apply Kd.R_drewN | apply Kd.R_drew)); exact Kd.R_mono HO_46.out (fun _ hk => trivial)⟩, ⟨pxq BK164⟩, ⟨pxb HB⟩⟩
              ·rw [if_neg c28] at H
               have c28b0 : (t169 == 1) = false := beq_eq_false_iff_ne.mpr c28
               have c28b1 : (t169 != 1) = true := bne_iff_ne.mpr c28
               by_cases c35 : t169 = 5
               ·rw [if_pos c35] at H
                have c35b0 : (t169 == 5) = true := beq_iff_eq.mpr c35
                have c35b1 : (t169 != 5) = false := bne_eq_false_iff_eq.mpr c35
                clear c35
                by_cases c36 : 0 < (t167.size : Int)
                ·rw [if_pos c36] at H
                 have c36b0 : decide (0 < (t167.size : Int)) = true := decide_eq_true c36
                 have c36b1 : decide (0 < t167.size) = true := decide_eq_true (by omega)
                 clear c36
                 by_cases c38 : (bt t167 0) = 48
                 ·rw [if_pos c38] at H
                  have c38b0 : ((bt t167 0) == 48) = true := beq_iff_eq.mpr c38
                  have c38b1 : ((bt t167 0) != 48) = false := bne_eq_false_iff_eq.mpr c38
                  clear c38
                  by_cases c39 : ((t167.size : Int) > 1)
                  ·rw [if_pos c39] at H
                   have c39b0 : decide (1 < (t167.size : Int)) = true := decide_eq_true c39
                   have c39b1 : decide (1 < t167.size) = true := decide_eq_true (by omega)
                   clear c39
                   have H' := Aside0.mk H
                   clear H
                   have p165 : 0 ≤ (x48_2 : Int) := of_decide_eq_true (by first | (with_reducible assumption) | assumption)
                   have q165 : x48_2 < (t159.length : Int) := of_decide_eq_true (by first | (with_reducible assumption) | assumption)
                   obtain ⟨ad165, e165, hx165_0, hx165_1, hx165_2⟩ := at_T33 (Kd.R_reads' HO_46.out).2.2 x48_2 p165 q165
                   cases e165
                   replace p165 := eq_true p165
                   replace q165 := eq_true q165
                   go_wp2_with (first | ((with_reducible refine gate_dst (N := 8) rfl ?_); refine box_event ?hg (N := 8) ?hd (cs := #[.int .i64 0, .int .i64 0, .int .i64 0]) (t := 33) ?hr ?_; (case hd => rfl); (case hg => rfl); (case hr => first | (go_simp; done) | (go_simp; rfl)); intro gb166 hg w40 hbox hb; have n0_ := Aside0.mk (Kd.R_below (Kd.R_elderB (pxr HO_46) gb166 (Nat.le_of_eq hg.symm)) hb); have n1_ := pxk BK164 hb; have n2_ := pxs HB hb; have n3_ := Aside0.mk (hbox); have n4_ := Aside0.mk ((by rw [hg]; exact (below_size (pxb HB)) : w.heap.size ≤ gb166)); have n5_ := Aside0.mk ((by rw [hg]; exact (below_size (pxb HB)) : w.heap.size ≤ gb166)); have n6_ := Aside0.mk ((by rw [hg]; exact Nat.ne_of_lt (blk_lt (g := gb164) (o := .cells #[.int .i64 t162, .int .i64 t163] 27 (0, 0)) (pxq BK164)) : gb164 ≠ gb166)); have n7_ := Aside0.mk ((by rw [hg]; exact Nat.ne_of_gt (blk_lt (g := gb164) (o := .cells #[.int .i64 t162, .int .i64 t163] 27 (0, 0)) (pxq BK164)) : gb166 ≠ gb164)); clear HO_46; clear BK164; clear HB; have HO_46 := n0_; have BK164 := n1_; have HB := n2_; have BK166 := n3_; have GW166 := n4_; have GE166 := n5_; have NB164_166 := n6_; have NB166_164 := n7_; clear n0_ n1_ n2_ n3_ n4_ n5_ n6_ n7_; clear hb hbox hg; have hnb41 := NB166_164.out; have hnc41 := NB164_166.out; have hcz42_0 : w40.cell? ⟨gb166, 0, none⟩ = some (.int .i64 0) := (blk_cell BK166.out 0).trans rfl; have hcz42_1 : w40.cell? ⟨gb166, 1, none⟩ = some (.int .i64 0) := (blk_cell BK166.out 1).trans rfl; have hcz42_2 : w40.cell? ⟨gb166, 2, none⟩ = some (.int .i64 0) := (blk_cell BK166.out 2).trans rfl; have hfz42_0 := blk_frozen BK166.out 0; have hfz42_1 := blk_frozen BK166.out 1; have hfz42_2 := blk_frozen BK166.out 2) | ((with_reducible refine gate_callee (f := 6) rfl ?_); refine goesL_ (some 54) rfl rfl Tryz.func6 (by kernel_rfl) rfl #[.string a0, .agg #[.int .i64 ((rd_T33 t159 x48_2).f0), .int .i64 ((rd_T33 t159 x48_2).f1.f0), .int .i64 ((rd_T33 t159 x48_2).f1.f1)]] rfl (by (try simp only [List.map_toArray, List.map_cons, List.map_nil]); first | done | rfl | (simp only [List.length_drop, List.length_take]; rfl)) ?_; (with_reducible refine (lex_Say.calls a0 ((rd_T33 t159 x48_2).f0) ((rd_T33 t159 x48_2).f1.f0) ((rd_T33 t159 x48_2).f1.f1) t167 _ A17.out).mono ?_); rintro e w43 ⟨rfl, hb⟩; refine ⟨_, rfl, ?_⟩; have n0_ := Aside0.mk (Kd.R_below (by (with_reducible repeat (first | apply Kd.R_alloc | apply Kd.R_drewN | apply Kd.R_drew)); exact (Kd.R_mono (Kd.R_far (p := ⟨gb166, 2, none⟩) (Kd.R_far (p := ⟨gb166, 1, none⟩) (Kd.R_far (p := ⟨gb166, 0, none⟩) (Kd.R_mono HO_46.out (fun k_ hk => (⟨hk, hk.2⟩ : _ ∧ k_ ≠ gb166))) (fun _ hk => hk.2) (.int .i64 ((rd_T33 t159 x48_2).f0))) (fun _ hk => hk.2) (.int .i64 ((rd_T33 t159 x48_2).f1.f0))) (fun _ hk => hk.2) (.int .i64 ((rd_T33 t159 x48_2).f1.f1))) (fun _ h_ => h_.1))) hb); have n1_ := Aside0.mk (blk_below (g := gb164) (o := .cells #[.int .i64 t162, .int .i64 t163] 27 (0, 0)) (by (with_reducible repeat (first | refine blk_drewN ?_ _ | refine blk_drew ?_ | refine blk_alloc ?_ _)); refine blk_far ?_ NB164_166.out _; (with_reducible repeat (first | refine blk_drewN ?_ _ | refine blk_drew ?_ | refine blk_alloc ?_ _)); refine blk_far ?_ NB164_166.out _; (with_reducible repeat (first | refine blk_drewN ?_ _ | refine blk_drew ?_ | refine blk_alloc ?_ _)); refine blk_far ?_ NB164_166.out _; (with_reducible repeat (first | refine blk_drewN ?_ _ | refine blk_drew ?_ | refine blk_alloc ?_ _)); exact BK164.out) hb); have n2_ := Aside0.mk (blk_below (g := gb166) (o := .cells #[.int .i64 ((rd_T33 t159 x48_2).f0), .int .i64 ((rd_T33 t159 x48_2).f1.f0), .int .i64 ((rd_T33 t159 x48_2).f1.f1)] 33 (0, 0)) (by (with_reducible repeat (first | refine blk_drewN ?_ _ | refine blk_drew ?_ | refine blk_alloc ?_ _)); refine blk_put (cs := #[.int .i64 ((rd_T33 t159 x48_2).f0), .int .i64 ((rd_T33 t159 x48_2).f1.f0), .int .i64 0]) ?_ 2 _ rfl; (with_reducible repeat (first | refine blk_drewN ?_ _ | refine blk_drew ?_ | refine blk_alloc ?_ _)); refine blk_put (cs := #[.int .i64 ((rd_T33 t159 x48_2).f0), .int .i64 0, .int .i64 0]) ?_ 1 _ rfl; (with_reducible repeat (first | refine blk_drewN ?_ _ | refine blk_drew ?_ | refine blk_alloc ?_ _)); refine blk_put (cs := #[.int .i64 0, .int .i64 0, .int .i64 0]) ?_ 0 _ rfl; (with_reducible repeat (first | refine blk_drewN ?_ _ | refine blk_drew ?_ | refine blk_alloc ?_ _)); exact BK166.out) hb); have n3_ := pxs HB hb; clear HO_46; clear BK164; clear BK166; clear HB; have HO_46 := n0_; have BK164 := n1_; have BK166 := n2_; have HB := n3_; clear n0_ n1_ n2_ n3_; (try clear hb); (try clear hb2); (try clear hk); (try clear hi); have hcz44_0 : w43.cell? ⟨gb166, 0, none⟩ = some (.int .i64 ((rd_T33 t159 x48_2).f0)) := (blk_cell BK166.out 0).trans rfl; have hcz44_1 : w43.cell? ⟨gb166, 1, none⟩ = some (.int .i64 ((rd_T33 t159 x48_2).f1.f0)) := (blk_cell BK166.out 1).trans rfl; have hcz44_2 : w43.cell? ⟨gb166, 2, none⟩ = some (.int .i64 ((rd_T33 t159 x48_2).f1.f1)) := (blk_cell BK166.out 2).trans rfl; have hfz44_0 := blk_frozen BK166.out 0; have hfz44_1 := blk_frozen BK166.out 1; have hfz44_2 := blk_frozen BK166.out 2) | ((with_reducible refine gate_callee (f := 4) rfl ?_); refine goesL_ (some 61) rfl rfl Tryz.func4 (by kernel_rfl) rfl #[.string t167] rfl (by (try simp only [List.map_toArray, List.map_cons, List.map_nil]); first | done | rfl | (simp only [List.length_drop, List.length_take]; rfl)) ?_; (with_reducible refine (num_Int.calls t167 t168 t169 _ A19.out ?gv).mono ?_); (case gv => first | exact LexW.GV.later HGV.out (pxb HB) | (repeat (first | exact HGV.out | apply LexW.GV.drewN))); rintro e w45 ⟨rfl, hb⟩; refine ⟨_, rfl, ?_⟩; have n0_ := Aside0.mk (Kd.R_below (pxr HO_46) hb); have n1_ := pxk BK164 hb; have n2_ := pxk BK166 hb; have n3_ := pxs HB hb; clear HO_46; clear BK164; clear BK166; clear HB; have HO_46 := n0_; have BK164 := n1_; have BK166 := n2_; have HB := n3_; clear n0_ n1_ n2_ n3_; (try clear hb); (try clear hb2); (try clear hk); (try clear hi); have p37 : 0 ≤ (0 : Int) := (by omega); have q37 : 0 < t167.size := (by have : (0 : Int) < (t167.size : Int) := of_decide_eq_true (by first | (with_reducible assumption) | assumption); omega); have hx37 : ∀ h : 0 < t167.size, ((t167[0]'h).toNat : Int) = bt t167 0 := bt_at t167 0; clear p37; have qi37 : (0 < (t167.size : Int)) = True := eq_true (of_decide_eq_true (by first | (with_reducible assumption) | assumption)); replace q37 := eq_true q37))
                   go_roundg k2
                   case measure => have := HJ2.out; have := HK2.out; omega
                   case rel => exact ⟨(wrap64 (x48_2 + 1)), (by first | rfl | (simp; done) | (simp [*]; done)), H', ⟨by have := HJ2.out; have := HK2.out; omega⟩, ⟨by (with_reducible repeat (first | apply Kd.R_alloc | apply Kd.R_drewN | apply Kd.R_drew)); exact Kd.R_mono HO_46.out (fun _ hk => trivial)⟩, ⟨pxq BK164⟩, ⟨pxb HB⟩⟩
                  ·rw [if_neg c39] at H
                   exact absurd H (by simp)
                 ·rw [if_neg c38] at H
                  exact absurd H (by simp)
                ·rw [if_neg c36] at H
                 exact absurd H (by simp)
               ·rw [if_neg c35] at H
                exact absurd H (by simp)
           ·rw [if_neg c18] at H
            have c18b0 : (((rd_T33 t159 x48_2).f0) == 2) = false := beq_eq_false_iff_ne.mpr c18
            have c18b1 : (((rd_T33 t159 x48_2).f0) != 2) = true := bne_iff_ne.mpr c18
            by_cases c46 : ((rd_T33 t159 x48_2).f0) = 3
            ·rw [if_pos c46] at H
             have c46b0 : (((rd_T33 t159 x48_2).f0) == 3) = true := beq_iff_eq.mpr c46
             have c46b1 : (((rd_T33 t159 x48_2).f0) != 3) = false := bne_eq_false_iff_eq.mpr c46
             clear c46
             replace H := Option.bind_eq_some_iff.mp H
             obtain ⟨⟨t170, t171⟩, A470, H⟩ := H
             replace H : (if t171 = 0 then (caulkertop_WholeTokens.j2 k2 a0 t170 t159 (t159.length : Int) x48_2 false) else (if t171 = 2 then (caulkertop_WholeTokens.j2 k2 a0 t170 t159 (t159.length : Int) x48_2 false) else (if t171 = 5 then (if 0 < (t167.size : Int) then (caulkertop_WholeTokens.j2 k2 a0 t170 t159 (t159.length : Int) x48_2 (!((bt t167 0) == 48))) else (none)) else (caulkertop_WholeTokens.j2 k2 a0 t170 t159 (t159.length : Int) x48_2 (!false))))) = some r := H
             have A47 := Aside0.mk A470
             clear A470
             have HC48 := Aside0.mk H
             clear H
             have p165 : 0 ≤ (x48_2 : Int) := of_decide_eq_true (by first | (with_reducible assumption) | assumption)
             have q165 : x48_2 < (t159.length : Int) := of_decide_eq_true (by first | (with_reducible assumption) | assumption)
             obtain ⟨ad165, e165, hx165_0, hx165_1, hx165_2⟩ := at_T33 (Kd.R_reads' HO_46.out).2.2 x48_2 p165 q165
             cases e165
             replace p165 := eq_true p165
             replace q165 := eq_true q165
             go_upto_region 20 with (first | ((with_reducible refine gate_dst (N := 8) rfl ?_); refine box_event ?hg (N := 8) ?hd (cs := #[.int .i64 0, .int .i64 0, .int .i64 0]) (t := 33) ?hr ?_; (case hd => rfl); (case hg => rfl); (case hr => first | (go_simp; done) | (go_simp; rfl)); intro gb166 hg w49 hbox hb; have n0_ := Aside0.mk (Kd.R_below (Kd.R_elderB (pxr HO_46) gb166 (Nat.le_of_eq hg.symm)) hb); have n1_ := pxk BK164 hb; have n2_ := pxs HB hb; have n3_ := Aside0.mk (hbox); have n4_ := Aside0.mk ((by rw [hg]; exact (below_size (pxb HB)) : w.heap.size ≤ gb166)); have n5_ := Aside0.mk ((by rw [hg]; exact (below_size (pxb HB)) : w.heap.size ≤ gb166)); have n6_ := Aside0.mk ((by rw [hg]; exact Nat.ne_of_lt (blk_lt (g := gb164) (o := .cells #[.int .i64 t162, .int .i64 t163] 27 (0, 0)) (pxq BK164)) : gb164 ≠ gb166)); have n7_ := Aside0.mk ((by rw [hg]; exact Nat.ne_of_gt (blk_lt (g := gb164) (o := .cells #[.int .i64 t162, .int .i64 t163] 27 (0, 0)) (pxq BK164)) : gb166 ≠ gb164)); clear HO_46; clear BK164; clear HB; have HO_46 := n0_; have BK164 := n1_; have HB := n2_; have BK166 := n3_; have GW166 := n4_; have GE166 := n5_; have NB164_166 := n6_; have NB166_164 := n7_; clear n0_ n1_ n2_ n3_ n4_ n5_ n6_ n7_; clear hb hbox hg; have hnb50 := NB166_164.out; have hnc50 := NB164_166.out; have hcz51_0 : w49.cell? ⟨gb166, 0, none⟩ = some (.int .i64 0) := (blk_cell BK166.out 0).trans rfl; have hcz51_1 : w49.cell? ⟨gb166, 1, none⟩ = some (.int .i64 0) := (blk_cell BK166.out 1).trans rfl; have hcz51_2 : w49.cell? ⟨gb166, 2, none⟩ = some (.int .i64 0) := (blk_cell BK166.out 2).trans rfl; have hfz51_0 := blk_frozen BK166.out 0; have hfz51_1 := blk_frozen BK166.out 1; have hfz51_2 := blk_frozen BK166.out 2) | ((with_reducible refine gate_callee (f := 6) rfl ?_); refine goesL_ (some 54) rfl rfl Tryz.func6 (by kernel_rfl) rfl #[.string a0, .agg #[.int .i64 ((rd_T33 t159 x48_2).f0), .int .i64 ((rd_T33 t159 x48_2).f1.f0), .int .i64 ((rd_T33 t159 x48_2).f1.f1)]] rfl (by (try simp only [List.map_toArray, List.map_cons, List.map_nil]); first | done | rfl | (simp only [List.length_drop, List.length_take]; rfl)) ?_; (with_reducible refine (lex_Say.calls a0 ((rd_T33 t159 x48_2).f0) ((rd_T33 t159 x48_2).f1.f0) ((rd_T33 t159 x48_2).f1.f1) t167 _ A17.out).mono ?_); rintro e w52 ⟨rfl, hb⟩; refine ⟨_, rfl, ?_⟩; have n0_ := Aside0.mk (Kd.R_below (by (with_reducible repeat (first | apply Kd.R_alloc | apply Kd.R_drewN | apply Kd.R_drew)); exact (Kd.R_mono (Kd.R_far (p := ⟨gb166, 2, none⟩) (Kd.R_far (p := ⟨gb166, 1, none⟩) (Kd.R_far (p := ⟨gb166, 0, none⟩) (Kd.R_mono HO_46.out (fun k_ hk => (⟨hk, hk.2⟩ : _ ∧ k_ ≠ gb166))) (fun _ hk => hk.2) (.int .i64 ((rd_T33 t159 x48_2).f0))) (fun _ hk => hk.2) (.int .i64 ((rd_T33 t159 x48_2).f1.f0))) (fun _ hk => hk.2) (.int .i64 ((rd_T33 t159 x48_2).f1.f1))) (fun _ h_ => h_.1))) hb); have n1_ := Aside0.mk (blk_below (g := gb164) (o := .cells #[.int .i64 t162, .int .i64 t163] 27 (0, 0)) (by (with_reducible repeat (first | refine blk_drewN ?_ _ | refine blk_drew ?_ | refine blk_alloc ?_ _)); refine blk_far ?_ NB164_166.out _; (with_reducible repeat (first | refine blk_drewN ?_ _ | refine blk_drew ?_ | refine blk_alloc ?_ _)); refine blk_far ?_ NB164_166.out _; (with_reducible repeat (first | refine blk_drewN ?_ _ | refine blk_drew ?_ | refine blk_alloc ?_ _)); refine blk_far ?_ NB164_166.out _; (with_reducible repeat (first | refine blk_drewN ?_ _ | refine blk_drew ?_ | refine blk_alloc ?_ _)); exact BK164.out) hb); have n2_ := Aside0.mk (blk_below (g := gb166) (o := .cells #[.int .i64 ((rd_T33 t159 x48_2).f0), .int .i64 ((rd_T33 t159 x48_2).f1.f0), .int .i64 ((rd_T33 t159 x48_2).f1.f1)] 33 (0, 0)) (by (with_reducible repeat (first | refine blk_drewN ?_ _ | refine blk_drew ?_ | refine blk_alloc ?_ _)); refine blk_put (cs := #[.int .i64 ((rd_T33 t159 x48_2).f0), .int .i64 ((rd_T33 t159 x48_2).f1.f0), .int .i64 0]) ?_ 2 _ rfl; (with_reducible repeat (first | refine blk_drewN ?_ _ | refine blk_drew ?_ | refine blk_alloc ?_ _)); refine blk_put (cs := #[.int .i64 ((rd_T33 t159 x48_2).f0), .int .i64 0, .int .i64 0]) ?_ 1 _ rfl; (with_reducible repeat (first | refine blk_drewN ?_ _ | refine blk_drew ?_ | refine blk_alloc ?_ _)); refine blk_put (cs := #[.int .i64 0, .int .i64 0, .int .i64 0]) ?_ 0 _ rfl; (with_reducible repeat (first | refine blk_drewN ?_ _ | refine blk_drew ?_ | refine blk_alloc ?_ _)); exact BK166.out) hb); have n3_ := pxs HB hb; clear HO_46; clear BK164; clear BK166; clear HB; have HO_46 := n0_; have BK164 := n1_; have BK166 := n2_; have HB := n3_; clear n0_ n1_ n2_ n3_; (try clear hb); (try clear hb2); (try clear hk); (try clear hi); have hcz53_0 : w52.cell? ⟨gb166, 0, none⟩ = some (.int .i64 ((rd_T33 t159 x48_2).f0)) := (blk_cell BK166.out 0).trans rfl; have hcz53_1 : w52.cell? ⟨gb166, 1, none⟩ = some (.int .i64 ((rd_T33 t159 x48_2).f1.f0)) := (blk_cell BK166.out 1).trans rfl; have hcz53_2 : w52.cell? ⟨gb166, 2, none⟩ = some (.int .i64 ((rd_T33 t159 x48_2).f1.f1)) := (blk_cell BK166.out 2).trans rfl; have hfz53_0 := blk_frozen BK166.out 0; have hfz53_1 := blk_frozen BK166.out 1; have hfz53_2 := blk_frozen BK166.out 2) | ((with_reducible refine gate_callee (f := 7) rfl ?_); refine goesL_ (some 93) rfl rfl Tryz.func7 (by kernel_rfl) rfl #[.string t167] rfl (by (try simp only [List.map_toArray, List.map_cons, List.map_nil]); first | done | rfl | (simp only [List.length_drop, List.length_take]; rfl)) ?_; (with_reducible refine (num_Float.calls t167 t170 t171 _ A47.out ?gv).mono ?_); (case gv => first | exact LexW.GV.later HGV.out (pxb HB) | (repeat (first | exact HGV.out | apply LexW.GV.drewN))); rintro e w54 ⟨rfl, hb⟩; refine ⟨_, rfl, ?_⟩; have n0_ := Aside0.mk (Kd.R_below (pxr HO_46) hb); have n1_ := pxk BK164 hb; have n2_ := pxk BK166 hb; have n3_ := pxs HB hb; clear HO_46; clear BK164; clear BK166; clear HB; have HO_46 := n0_; have BK164 := n1_; have BK166 := n2_; have HB := n3_; clear n0_ n1_ n2_ n3_; (try clear hb); (try clear hb2); (try clear hk); (try clear hi)))
             (try simp only [Act.put, List.setIfInBounds_toArray, List.set_cons_zero, List.set_cons_succ])
             go_cut [111] (fun v111 wc => ∃ (kq : Nat) (x111_47 : Bool), v111 = .bool x111_47 ∧ Aside0 (caulkertop_WholeTokens.j2 kq a0 t170 t159 (t159.length : Int) x48_2 x111_47 = some r) ∧ Aside0 (kq ≤ k2) ∧ Aside0 (Kd.R k33 33 wc w.heap.size (fun k_ => k_ ≠ gb166) (.slice (some ad165) t159.length co13) t159) ∧ Aside0 (wc.heap[gb164]? = some (.cells #[.int .i64 t162, .int .i64 t163] 27 (0, 0))) ∧ Aside0 (wc.heap[gb166]? = some (.cells #[.int .i64 ((rd_T33 t159 x48_2).f0), .int .i64 ((rd_T33 t159 x48_2).f1.f0), .int .i64 ((rd_T33 t159 x48_2).f1.f1)] 33 (0, 0))) ∧ Aside0 (Below w.heap.size w wc))
             case first =>
              have H := HC48.out
              clear HC48
              by_cases c55 : t171 = 0
              ·rw [if_pos c55] at H
               have c55b0 : (t171 == 0) = true := beq_iff_eq.mpr c55
               have c55b1 : (t171 != 0) = false := bne_eq_false_iff_eq.mpr c55
               clear c55
               (first | rw [c55b0] | (simp only [i64_w, i32_w]; rw [c55b0]) | skip)
               have H' := Aside0.mk H
               clear H
               go_wp2
               go_meet
               case rel => exact ⟨_, (false), (by first | rfl | (simp; done) | (simp [*]; done)), H', ⟨by have := HJ2.out; have := HK2.out; first | omega | exact Nat.le_refl _⟩, ⟨by (with_reducible repeat (first | apply Kd.R_alloc | apply Kd.R_drewN | apply Kd.R_drew)); exact Kd.R_mono HO_46.out (fun _ hk => hk.2)⟩, ⟨pxq BK164⟩, ⟨pxq BK166⟩, ⟨pxb HB⟩⟩
              ·rw [if_neg c55] at H
               have c55b0 : (t171 == 0) = false := beq_eq_false_iff_ne.mpr c55
               have c55b1 : (t171 != 0) = true := bne_iff_ne.mpr c55
               (first | rw [c55b0] | (simp only [i64_w, i32_w]; rw [c55b0]) | skip)
               by_cases c56 : t171 = 2
               ·rw [if_pos c56] at H
                have c56b0 : (t171 == 2) = true := beq_iff_eq.mpr c56
                have c56b1 : (t171 != 2) = false := bne_eq_false_iff_eq.mpr c56
                clear c56
                have H' := Aside0.mk H
                clear H
                go_wp2
                go_meet
                case rel => exact ⟨_, (false), (by first | rfl | (simp; done) | (simp [*]; done)), H', ⟨by have := HJ2.out; have := HK2.out; first | omega | exact Nat.le_refl _⟩, ⟨by (with_reducible repeat (first | apply Kd.R_alloc | apply Kd.R_drewN | apply Kd.R_drew)); exact Kd.R_mono HO_46.out (fun _ hk => hk.2)⟩, ⟨pxq BK164⟩, ⟨pxq BK166⟩, ⟨pxb HB⟩⟩
               ·rw [if_neg c56] at H
                have c56b0 : (t171 == 2) = false := beq_eq_false_iff_ne.mpr c56
                have c56b1 : (t171 != 2) = true := bne_iff_ne.mpr c56
                by_cases c57 : t171 = 5
                ·rw [if_pos c57] at H
                 have c57b0 : (t171 == 5) = true := beq_iff_eq.mpr c57
                 have c57b1 : (t171 != 5) = false := bne_eq_false_iff_eq.mpr c57
                 clear c57
                 by_cases c58 : 0 < (t167.size : Int)
                 ·rw [if_pos c58] at H
                  have c58b0 : decide (0 < (t167.size : Int)) = true := decide_eq_true c58
                  have c58b1 : decide (0 < t167.size) = true := decide_eq_true (by omega)
                  clear c58
                  have H' := Aside0.mk H
                  clear H
                  have p59 : 0 ≤ (0 : Int) := (by omega)
                  have q59 : 0 < t167.size := (by have : (0 : Int) < (t167.size : Int) := of_decide_eq_true (by first | (with_reducible assumption) | assumption); omega)
                  have hx59 : ∀ h : 0 < t167.size, ((t167[0]'h).toNat : Int) = bt t167 0 := bt_at t167 0
                  clear p59
                  have qi59 : (0 < (t167.size : Int)) = True := eq_true (of_decide_eq_true (by first | (with_reducible assumption) | assumption))
                  replace q59 := eq_true q59
                  go_wp2
                  go_meet
                  case rel => exact ⟨_, (!((bt t167 0) == 48)), (by first | rfl | (simp; done) | (simp [*]; done)), H', ⟨by have := HJ2.out; have := HK2.out; first | omega | exact Nat.le_refl _⟩, ⟨by (with_reducible repeat (first | apply Kd.R_alloc | apply Kd.R_drewN | apply Kd.R_drew)); exact Kd.R_mono HO_46.out (fun _ hk => hk.2)⟩, ⟨pxq BK164⟩, ⟨pxq BK166⟩, ⟨pxb HB⟩⟩
                 ·rw [if_neg c58] at H
                  exact absurd H (by simp)
                ·rw [if_neg c57] at H
                 have c57b0 : (t171 == 5) = false := beq_eq_false_iff_ne.mpr c57
                 have c57b1 : (t171 != 5) = true := bne_iff_ne.mpr c57
                 have H' := Aside0.mk H
                 clear H
                 go_wp2
                 go_meet
                 case rel => exact ⟨_, (!false), (by first | rfl | (simp; done) | (simp [*]; done)), H', ⟨by have := HJ2.out; have := HK2.out; first | omega | exact Nat.le_refl _⟩, ⟨by (with_reducible repeat (first | apply Kd.R_alloc | apply Kd.R_drewN | apply Kd.R_drew)); exact Kd.R_mono HO_46.out (fun _ hk => hk.2)⟩, ⟨pxq BK164⟩, ⟨pxq BK166⟩, ⟨pxb HB⟩⟩
             case rest =>
              clear HC48
              try clear c1
              try clear p1
              try clear q1
              try clear hx1
              try clear c2
              try clear p2
              try clear c3
              try clear p3
              try clear q3
              try clear hx3
              try clear qi3
              try clear c4
              try clear c5
              try clear c5b0
              try clear c5b1
              try clear p5
              try clear q5
              try clear hx5
              try clear qi5
              try clear c6
              try clear p6
              try clear c7
              try clear c7b0
              try clear c7b1
              try clear c9
              try clear c9b0
              try clear c9b1
              try clear c14
              try clear c14b0
              try clear c15
              try clear c15b0
              try clear c16
              try clear c16b0
              try clear p16
              try clear q16
              try clear hx16
              try clear c18
              try clear c18b0
              try clear c18b1
              try clear c20
              try clear c20b0
              try clear c21
              try clear c21b0
              try clear c21b1
              try clear c23
              try clear c28
              try clear c28b0
              try clear c28b1
              try clear c30
              try clear c35
              try clear c35b0
              try clear c35b1
              try clear c36
              try clear c36b0
              try clear c36b1
              try clear p37
              try clear q37
              try clear hx37
              try clear qi37
              try clear c38
              try clear c38b0
              try clear c38b1
              try clear c39
              try clear c39b0
              try clear c39b1
              try clear c41
              try clear c46
              try clear c46b0
              try clear c46b1
              try clear c50
              try clear c55
              try clear c55b0
              try clear c55b1
              try clear c56
              try clear c56b0
              try clear c56b1
              try clear c57
              try clear c57b0
              try clear c57b1
              try clear c58
              try clear c58b0
              try clear c58b1
              try clear p59
              try clear q59
              try clear hx59
              try clear qi59
              try clear hcz12_0
              try clear hcz12_1
              try clear hcz24_0
              try clear hcz24_1
              try clear hcz24_2
              try clear hcz26_0
              try clear hcz26_1
              try clear hcz26_2
              try clear hcz31_0
              try clear hcz31_1
              try clear hcz31_2
              try clear hcz33_0
              try clear hcz33_1
              try clear hcz33_2
              try clear hcz42_0
              try clear hcz42_1
              try clear hcz42_2
              try clear hcz44_0
              try clear hcz44_1
              try clear hcz44_2
              try clear hcz51_0
              try clear hcz51_1
              try clear hcz51_2
              try clear hcz53_0
              try clear hcz53_1
              try clear hcz53_2
              try clear hfz12_0
              try clear hfz12_1
              try clear hfz24_0
              try clear hfz24_1
              try clear hfz24_2
              try clear hfz26_0
              try clear hfz26_1
              try clear hfz26_2
              try clear hfz31_0
              try clear hfz31_1
              try clear hfz31_2
              try clear hfz33_0
              try clear hfz33_1
              try clear hfz33_2
              try clear hfz42_0
              try clear hfz42_1
              try clear hfz42_2
              try clear hfz44_0
              try clear hfz44_1
              try clear hfz44_2
              try clear hfz51_0
              try clear hfz51_1
              try clear hfz51_2
              try clear hfz53_0
              try clear hfz53_1
              try clear hfz53_2
              try clear hx165_0
              try clear hx165_1
              try clear hx165_2
              try clear p165
              try clear p2
              try clear p37
              try clear p59
              try clear q165
              try clear q37
              try clear q59
              obtain ⟨kq, x111_47, rfl, HA, HJ47, HO_46, BK164, BK166, HB⟩ := hcut
              cases kq with
              | zero => exact absurd HA.out (by simp [caulkertop_WholeTokens.j2])
              | succ kj47 =>
               have H := HA.out
               clear HA
               simp only [caulkertop_WholeTokens.j2] at H
               by_cases c60 : x111_47 = true
               ·subst c60
                have H1 : (none) = some r := by rw [if_pos rfl] at H; exact H
                clear H
                have H := H1
                clear H1
                exact absurd H (by simp)
               ·replace c60 := Bool.eq_false_iff.mpr c60
                subst c60
                have H1 : ((num_ToInt.f t170).bind fun t172 => ((num_ToFloat.f t172).bind fun t173 => ((num_FloatCompare.f (⟨#[60]⟩ : ByteArray) t170 t173).bind fun bt174 => (if bt174.1 = true then (none) else ((num_FloatNeg.f t170).bind fun t176 => ((num_FloatNeg.f t176).bind fun t177 => (if t177 = t170 then (caulkertop_WholeTokens.l0 kj47 a0 t159 (t159.length : Int) (wrap64 (x48_2 + 1))) else (none)))))))) = some r := by rw [if_neg (show ¬ (false = true) by decide)] at H; exact H
                clear H
                have H := H1
                clear H1
                replace H := Option.bind_eq_some_iff.mp H
                obtain ⟨t172, A610, H⟩ := H
                replace H : ((num_ToFloat.f t172).bind fun t173 => ((num_FloatCompare.f (⟨#[60]⟩ : ByteArray) t170 t173).bind fun bt174 => (if bt174.1 = true then (none) else ((num_FloatNeg.f t170).bind fun t176 => ((num_FloatNeg.f t176).bind fun t177 => (if t177 = t170 then (caulkertop_WholeTokens.l0 kj47 a0 t159 (t159.length : Int) (wrap64 (x48_2 + 1))) else (none))))))) = some r := H
                have A61 := Aside0.mk A610
                clear A610
                replace H := Option.bind_eq_some_iff.mp H
                obtain ⟨t173, A620, H⟩ := H
                replace H : ((num_FloatCompare.f (⟨#[60]⟩ : ByteArray) t170 t173).bind fun bt174 => (if bt174.1 = true then (none) else ((num_FloatNeg.f t170).bind fun t176 => ((num_FloatNeg.f t176).bind fun t177 => (if t177 = t170 then (caulkertop_WholeTokens.l0 kj47 a0 t159 (t159.length : Int) (wrap64 (x48_2 + 1))) else (none)))))) = some r := H
                have A62 := Aside0.mk A620
                clear A620
                replace H := Option.bind_eq_some_iff.mp H
                obtain ⟨⟨t174, t175⟩, A630, H⟩ := H
                replace H : (if t174 = true then (none) else ((num_FloatNeg.f t170).bind fun t176 => ((num_FloatNeg.f t176).bind fun t177 => (if t177 = t170 then (caulkertop_WholeTokens.l0 kj47 a0 t159 (t159.length : Int) (wrap64 (x48_2 + 1))) else (none))))) = some r := H
                have A63 := Aside0.mk A630
                clear A630
                by_cases c64 : t174 = true
                ·subst c64
                 have H1 : (none) = some r := by rw [if_pos rfl] at H; exact H
                 clear H
                 have H := H1
                 clear H1
                 exact absurd H (by simp)
                ·replace c64 := Bool.eq_false_iff.mpr c64
                 subst c64
                 have H1 : ((num_FloatNeg.f t170).bind fun t176 => ((num_FloatNeg.f t176).bind fun t177 => (if t177 = t170 then (caulkertop_WholeTokens.l0 kj47 a0 t159 (t159.length : Int) (wrap64 (x48_2 + 1))) else (none)))) = some r := by rw [if_neg (show ¬ (false = true) by decide)] at H; exact H
                 clear H
                 have H := H1
                 clear H1
                 replace H := Option.bind_eq_some_iff.mp H
                 obtain ⟨t176, A650, H⟩ := H
                 replace H : ((num_FloatNeg.f t176).bind fun t177 => (if t177 = t170 then (caulkertop_WholeTokens.l0 kj47 a0 t159 (t159.length : Int) (wrap64 (x48_2 + 1))) else (none))) = some r := H
                 have A65 := Aside0.mk A650
                 clear A650
                 replace H := Option.bind_eq_some_iff.mp H
                 obtain ⟨t177, A660, H⟩ := H
                 replace H : (if t177 = t170 then (caulkertop_WholeTokens.l0 kj47 a0 t159 (t159.length : Int) (wrap64 (x48_2 + 1))) else (none)) = some r := H
                 have A66 := Aside0.mk A660
                 clear A660
                 by_cases c67 : t177 = t170
                 ·rw [if_pos c67] at H
                  have c67b0 : (t177 == t170) = true := beq_iff_eq.mpr c67
                  have c67b1 : (t177 != t170) = false := bne_eq_false_iff_eq.mpr c67
                  clear c67
                  have H' := Aside0.mk H
                  clear H
                  go_wp2_with (first | ((with_reducible refine gate_callee (f := 10) rfl ?_); refine goesL_ (some 115) rfl rfl Tryz.func10 (by kernel_rfl) rfl #[.int .u64 t170] rfl (by (try simp only [List.map_toArray, List.map_cons, List.map_nil]); first | done | rfl | (simp only [List.length_drop, List.length_take]; rfl)) ?_; (with_reducible refine (num_ToInt.calls t170 t172 _ A61.out).mono ?_); rintro e w' ⟨rfl, ⟨nd, rfl⟩⟩; refine ⟨_, rfl, ?_⟩) | ((with_reducible refine gate_callee (f := 9) rfl ?_); refine goesL_ (some 116) rfl rfl Tryz.func9 (by kernel_rfl) rfl #[.int .i64 t172] rfl (by (try simp only [List.map_toArray, List.map_cons, List.map_nil]); first | done | rfl | (simp only [List.length_drop, List.length_take]; rfl)) ?_; (with_reducible refine (num_ToFloat.calls t172 t173 _ A62.out).mono ?_); rintro e w' ⟨rfl, ⟨nd, rfl⟩⟩; refine ⟨_, rfl, ?_⟩) | ((with_reducible refine gate_callee (f := 8) rfl ?_); refine goesL_ (some 117) rfl rfl Tryz.func8 (by kernel_rfl) rfl #[.string (⟨#[60]⟩ : ByteArray), .int .u64 t170, .int .u64 t173] rfl (by (try simp only [List.map_toArray, List.map_cons, List.map_nil]); first | done | rfl | (simp only [List.length_drop, List.length_take]; rfl)) ?_; (with_reducible refine (num_FloatCompare.calls (⟨#[60]⟩ : ByteArray) t170 t173 false t175 _ A63.out).mono ?_); rintro e w' ⟨rfl, ⟨nd, rfl⟩⟩; refine ⟨_, rfl, ?_⟩) | (go_at_call 11; (with_reducible refine (num_FloatNeg.calls t170 t176 _ A65.out).mono ?_); rintro e w' ⟨rfl, ⟨nd, rfl⟩⟩) | (go_at_call 11; (with_reducible refine (num_FloatNeg.calls t176 t177 _ A66.out).mono ?_); rintro e w' ⟨rfl, ⟨nd, rfl⟩⟩))
                  go_roundg kj47
                  case measure => have := HJ2.out; have := HK2.out; have := HJ47.out; omega
                  case rel => exact ⟨(wrap64 (x48_2 + 1)), (by first | rfl | (simp; done) | (simp [*]; done)), H', ⟨by have := HJ2.out; have := HK2.out; have := HJ47.out; omega⟩, ⟨by (with_reducible repeat (first | apply Kd.R_alloc | apply Kd.R_drewN | apply Kd.R_drew)); exact Kd.R_mono HO_46.out (fun _ hk => trivial)⟩, ⟨pxq BK164⟩, ⟨pxb HB⟩⟩
                 ·rw [if_neg c67] at H
                  exact absurd H (by simp)
            ·rw [if_neg c46] at H
             have c46b0 : (((rd_T33 t159 x48_2).f0) == 3) = false := beq_eq_false_iff_ne.mpr c46
             have c46b1 : (((rd_T33 t159 x48_2).f0) != 3) = true := bne_iff_ne.mpr c46
             by_cases c68 : ((rd_T33 t159 x48_2).f0) = 4
             ·rw [if_pos c68] at H
              have c68b0 : (((rd_T33 t159 x48_2).f0) == 4) = true := beq_iff_eq.mpr c68
              have c68b1 : (((rd_T33 t159 x48_2).f0) != 4) = false := bne_eq_false_iff_eq.mpr c68
              clear c68
              replace H := Option.bind_eq_some_iff.mp H
              obtain ⟨⟨t178, t179⟩, A690, H⟩ := H
              replace H : ((lex_Quote.f t178).bind fun bt180 => ((lex_Unquote.f bt180.1).bind fun bt182 => (if (wrap64 ((wrap64 (t179 + bt180.2)) + bt182.2)) = 0 then (if t178.toList = bt182.1.toList then (caulkertop_WholeTokens.l0 k2 a0 t159 (t159.length : Int) (wrap64 (x48_2 + 1))) else (none)) else (none)))) = some r := H
              have A69 := Aside0.mk A690
              clear A690
              replace H := Option.bind_eq_some_iff.mp H
              obtain ⟨⟨t180, t181⟩, A700, H⟩ := H
              replace H : ((lex_Unquote.f t180).bind fun bt182 => (if (wrap64 ((wrap64 (t179 + t181)) + bt182.2)) = 0 then (if t178.toList = bt182.1.toList then (caulkertop_WholeTokens.l0 k2 a0 t159 (t159.length : Int) (wrap64 (x48_2 + 1))) else (none)) else (none))) = some r := H
              have A70 := Aside0.mk A700
              clear A700
              replace H := Option.bind_eq_some_iff.mp H
              obtain ⟨⟨t182, t183⟩, A710, H⟩ := H
              replace H : (if (wrap64 ((wrap64 (t179 + t181)) + t183)) = 0 then (if t178.toList = t182.toList then (caulkertop_WholeTokens.l0 k2 a0 t159 (t159.length : Int) (wrap64 (x48_2 + 1))) else (none)) else (none)) = some r := H
              have A71 := Aside0.mk A710
              clear A710
              by_cases c72 : (wrap64 ((wrap64 (t179 + t181)) + t183)) = 0
              ·rw [if_pos c72] at H
               have c72b0 : ((wrap64 ((wrap64 (t179 + t181)) + t183)) == 0) = true := beq_iff_eq.mpr c72
               have c72b1 : ((wrap64 ((wrap64 (t179 + t181)) + t183)) != 0) = false := bne_eq_false_iff_eq.mpr c72
               clear c72
               by_cases c73 : t178.toList = t182.toList
               ·rw [if_pos c73] at H
                have c73b0 : (t178.toList == t182.toList) = true := beq_iff_eq.mpr c73
                have c73b1 : (t178.toList != t182.toList) = false := bne_eq_false_iff_eq.mpr c73
                clear c73
                have H' := Aside0.mk H
                clear H
                have p165 : 0 ≤ (x48_2 : Int) := of_decide_eq_true (by first | (with_reducible assumption) | assumption)
                have q165 : x48_2 < (t159.length : Int) := of_decide_eq_true (by first | (with_reducible assumption) | assumption)
                obtain ⟨ad165, e165, hx165_0, hx165_1, hx165_2⟩ := at_T33 (Kd.R_reads' HO_46.out).2.2 x48_2 p165 q165
                cases e165
                replace p165 := eq_true p165
                replace q165 := eq_true q165
                go_wp2_with (first | ((with_reducible refine gate_dst (N := 8) rfl ?_); refine box_event ?hg (N := 8) ?hd (cs := #[.int .i64 0, .int .i64 0, .int .i64 0]) (t := 33) ?hr ?_; (case hd => rfl); (case hg => rfl); (case hr => first | (go_simp; done) | (go_simp; rfl)); intro gb166 hg w74 hbox hb; have n0_ := Aside0.mk (Kd.R_below (Kd.R_elderB (pxr HO_46) gb166 (Nat.le_of_eq hg.symm)) hb); have n1_ := pxk BK164 hb; have n2_ := pxs HB hb; have n3_ := Aside0.mk (hbox); have n4_ := Aside0.mk ((by rw [hg]; exact (below_size (pxb HB)) : w.heap.size ≤ gb166)); have n5_ := Aside0.mk ((by rw [hg]; exact (below_size (pxb HB)) : w.heap.size ≤ gb166)); have n6_ := Aside0.mk ((by rw [hg]; exact Nat.ne_of_lt (blk_lt (g := gb164) (o := .cells #[.int .i64 t162, .int .i64 t163] 27 (0, 0)) (pxq BK164)) : gb164 ≠ gb166)); have n7_ := Aside0.mk ((by rw [hg]; exact Nat.ne_of_gt (blk_lt (g := gb164) (o := .cells #[.int .i64 t162, .int .i64 t163] 27 (0, 0)) (pxq BK164)) : gb166 ≠ gb164)); clear HO_46; clear BK164; clear HB; have HO_46 := n0_; have BK164 := n1_; have HB := n2_; have BK166 := n3_; have GW166 := n4_; have GE166 := n5_; have NB164_166 := n6_; have NB166_164 := n7_; clear n0_ n1_ n2_ n3_ n4_ n5_ n6_ n7_; clear hb hbox hg; have hnb75 := NB166_164.out; have hnc75 := NB164_166.out; have hcz76_0 : w74.cell? ⟨gb166, 0, none⟩ = some (.int .i64 0) := (blk_cell BK166.out 0).trans rfl; have hcz76_1 : w74.cell? ⟨gb166, 1, none⟩ = some (.int .i64 0) := (blk_cell BK166.out 1).trans rfl; have hcz76_2 : w74.cell? ⟨gb166, 2, none⟩ = some (.int .i64 0) := (blk_cell BK166.out 2).trans rfl; have hfz76_0 := blk_frozen BK166.out 0; have hfz76_1 := blk_frozen BK166.out 1; have hfz76_2 := blk_frozen BK166.out 2) | ((with_reducible refine gate_callee (f := 6) rfl ?_); refine goesL_ (some 54) rfl rfl Tryz.func6 (by kernel_rfl) rfl #[.string a0, .agg #[.int .i64 ((rd_T33 t159 x48_2).f0), .int .i64 ((rd_T33 t159 x48_2).f1.f0), .int .i64 ((rd_T33 t159 x48_2).f1.f1)]] rfl (by (try simp only [List.map_toArray, List.map_cons, List.map_nil]); first | done | rfl | (simp only [List.length_drop, List.length_take]; rfl)) ?_; (with_reducible refine (lex_Say.calls a0 ((rd_T33 t159 x48_2).f0) ((rd_T33 t159 x48_2).f1.f0) ((rd_T33 t159 x48_2).f1.f1) t167 _ A17.out).mono ?_); rintro e w77 ⟨rfl, hb⟩; refine ⟨_, rfl, ?_⟩; have n0_ := Aside0.mk (Kd.R_below (by (with_reducible repeat (first | apply Kd.R_alloc | apply Kd.R_drewN | apply Kd.R_drew)); exact (Kd.R_mono (Kd.R_far (p := ⟨gb166, 2, none⟩) (Kd.R_far (p := ⟨gb166, 1, none⟩) (Kd.R_far (p := ⟨gb166, 0, none⟩) (Kd.R_mono HO_46.out (fun k_ hk => (⟨hk, hk.2⟩ : _ ∧ k_ ≠ gb166))) (fun _ hk => hk.2) (.int .i64 ((rd_T33 t159 x48_2).f0))) (fun _ hk => hk.2) (.int .i64 ((rd_T33 t159 x48_2).f1.f0))) (fun _ hk => hk.2) (.int .i64 ((rd_T33 t159 x48_2).f1.f1))) (fun _ h_ => h_.1))) hb); have n1_ := Aside0.mk (blk_below (g := gb164) (o := .cells #[.int .i64 t162, .int .i64 t163] 27 (0, 0)) (by (with_reducible repeat (first | refine blk_drewN ?_ _ | refine blk_drew ?_ | refine blk_alloc ?_ _)); refine blk_far ?_ NB164_166.out _; (with_reducible repeat (first | refine blk_drewN ?_ _ | refine blk_drew ?_ | refine blk_alloc ?_ _)); refine blk_far ?_ NB164_166.out _; (with_reducible repeat (first | refine blk_drewN ?_ _ | refine blk_drew ?_ | refine blk_alloc ?_ _)); refine blk_far ?_ NB164_166.out _; (with_reducible repeat (first | refine blk_drewN ?_ _ | refine blk_drew ?_ | refine blk_alloc ?_ _)); exact BK164.out) hb); have n2_ := Aside0.mk (blk_below (g := gb166) (o := .cells #[.int .i64 ((rd_T33 t159 x48_2).f0), .int .i64 ((rd_T33 t159 x48_2).f1.f0), .int .i64 ((rd_T33 t159 x48_2).f1.f1)] 33 (0, 0)) (by (with_reducible repeat (first | refine blk_drewN ?_ _ | refine blk_drew ?_ | refine blk_alloc ?_ _)); refine blk_put (cs := #[.int .i64 ((rd_T33 t159 x48_2).f0), .int .i64 ((rd_T33 t159 x48_2).f1.f0), .int .i64 0]) ?_ 2 _ rfl; (with_reducible repeat (first | refine blk_drewN ?_ _ | refine blk_drew ?_ | refine blk_alloc ?_ _)); refine blk_put (cs := #[.int .i64 ((rd_T33 t159 x48_2).f0), .int .i64 0, .int .i64 0]) ?_ 1 _ rfl; (with_reducible repeat (first | refine blk_drewN ?_ _ | refine blk_drew ?_ | refine blk_alloc ?_ _)); refine blk_put (cs := #[.int .i64 0, .int .i64 0, .int .i64 0]) ?_ 0 _ rfl; (with_reducible repeat (first | refine blk_drewN ?_ _ | refine blk_drew ?_ | refine blk_alloc ?_ _)); exact BK166.out) hb); have n3_ := pxs HB hb; clear HO_46; clear BK164; clear BK166; clear HB; have HO_46 := n0_; have BK164 := n1_; have BK166 := n2_; have HB := n3_; clear n0_ n1_ n2_ n3_; (try clear hb); (try clear hb2); (try clear hk); (try clear hi); have hcz78_0 : w77.cell? ⟨gb166, 0, none⟩ = some (.int .i64 ((rd_T33 t159 x48_2).f0)) := (blk_cell BK166.out 0).trans rfl; have hcz78_1 : w77.cell? ⟨gb166, 1, none⟩ = some (.int .i64 ((rd_T33 t159 x48_2).f1.f0)) := (blk_cell BK166.out 1).trans rfl; have hcz78_2 : w77.cell? ⟨gb166, 2, none⟩ = some (.int .i64 ((rd_T33 t159 x48_2).f1.f1)) := (blk_cell BK166.out 2).trans rfl; have hfz78_0 := blk_frozen BK166.out 0; have hfz78_1 := blk_frozen BK166.out 1; have hfz78_2 := blk_frozen BK166.out 2) | ((with_reducible refine gate_callee (f := 12) rfl ?_); refine goesL_ (some 132) rfl rfl Tryz.func12 (by kernel_rfl) rfl #[.string t167] rfl (by (try simp only [List.map_toArray, List.map_cons, List.map_nil]); first | done | rfl | (simp only [List.length_drop, List.length_take]; rfl)) ?_; (with_reducible refine (lex_Unquote.calls t167 t178 t179 _ A69.out).mono ?_); rintro e w79 ⟨rfl, hb⟩; refine ⟨_, rfl, ?_⟩; have n0_ := Aside0.mk (Kd.R_below (pxr HO_46) hb); have n1_ := pxk BK164 hb; have n2_ := pxk BK166 hb; have n3_ := pxs HB hb; clear HO_46; clear BK164; clear BK166; clear HB; have HO_46 := n0_; have BK164 := n1_; have BK166 := n2_; have HB := n3_; clear n0_ n1_ n2_ n3_; (try clear hb); (try clear hb2); (try clear hk); (try clear hi)) | ((with_reducible refine gate_callee (f := 13) rfl ?_); refine goesL_ (some 137) rfl rfl Tryz.func13 (by kernel_rfl) rfl #[.string t178] rfl (by (try simp only [List.map_toArray, List.map_cons, List.map_nil]); first | done | rfl | (simp only [List.length_drop, List.length_take]; rfl)) ?_; (with_reducible refine (lex_Quote.calls t178 t180 t181 _ A70.out).mono ?_); rintro e w80 ⟨rfl, hb⟩; refine ⟨_, rfl, ?_⟩; have n0_ := Aside0.mk (Kd.R_below (pxr HO_46) hb); have n1_ := pxk BK164 hb; have n2_ := pxk BK166 hb; have n3_ := pxs HB hb; clear HO_46; clear BK164; clear BK166; clear HB; have HO_46 := n0_; have BK164 := n1_; have BK166 := n2_; have HB := n3_; clear n0_ n1_ n2_ n3_; (try clear hb); (try clear hb2); (try clear hk); (try clear hi)) | ((with_reducible refine gate_callee (f := 12) rfl ?_); refine goesL_ (some 142) rfl rfl Tryz.func12 (by kernel_rfl) rfl #[.string t180] rfl (by (try simp only [List.map_toArray, List.map_cons, List.map_nil]); first | done | rfl | (simp only [List.length_drop, List.length_take]; rfl)) ?_; (with_reducible refine (lex_Unquote.calls t180 t182 t183 _ A71.out).mono ?_); rintro e w81 ⟨rfl, hb⟩; refine ⟨_, rfl, ?_⟩; have n0_ := Aside0.mk (Kd.R_below (pxr HO_46) hb); have n1_ := pxk BK164 hb; have n2_ := pxk BK166 hb; have n3_ := pxs HB hb; clear HO_46; clear BK164; clear BK166; clear HB; have HO_46 := n0_; have BK164 := n1_; have BK166 := n2_; have HB := n3_; clear n0_ n1_ n2_ n3_; (try clear hb); (try clear hb2); (try clear hk); (try clear hi)))
                go_roundg k2
                case measure => have := HJ2.out; have := HK2.out; omega
                case rel => exact ⟨(wrap64 (x48_2 + 1)), (by first | rfl | (simp; done) | (simp [*]; done)), H', ⟨by have := HJ2.out; have := HK2.out; omega⟩, ⟨by (with_reducible repeat (first | apply Kd.R_alloc | apply Kd.R_drewN | apply Kd.R_drew)); exact Kd.R_mono HO_46.out (fun _ hk => trivial)⟩, ⟨pxq BK164⟩, ⟨pxb HB⟩⟩
               ·rw [if_neg c73] at H
                exact absurd H (by simp)
              ·rw [if_neg c72] at H
               exact absurd H (by simp)
             ·rw [if_neg c68] at H
              have c68b0 : (((rd_T33 t159 x48_2).f0) == 4) = false := beq_eq_false_iff_ne.mpr c68
              have c68b1 : (((rd_T33 t159 x48_2).f0) != 4) = true := bne_iff_ne.mpr c68
              by_cases c82 : ((rd_T33 t159 x48_2).f0) = 1
              ·rw [if_pos c82] at H
               have c82b0 : (((rd_T33 t159 x48_2).f0) == 1) = true := beq_iff_eq.mpr c82
               have c82b1 : (((rd_T33 t159 x48_2).f0) != 1) = false := bne_eq_false_iff_eq.mpr c82
               clear c82
               replace H := Option.bind_eq_some_iff.mp H
               obtain ⟨t184, A830, H⟩ := H
               replace H : ((lex_Kept.f t167).bind fun t185 => (if (t184 == t185) = true then (none) else (caulkertop_WholeTokens.l0 k2 a0 t159 (t159.length : Int) (wrap64 (x48_2 + 1))))) = some r := H
               have A83 := Aside0.mk A830
               clear A830
               replace H := Option.bind_eq_some_iff.mp H
               obtain ⟨t185, A840, H⟩ := H
               replace H : (if (t184 == t185) = true then (none) else (caulkertop_WholeTokens.l0 k2 a0 t159 (t159.length : Int) (wrap64 (x48_2 + 1)))) = some r := H
               have A84 := Aside0.mk A840
               clear A840
               by_cases c85 : (t184 == t185) = true
               ·rw [if_pos c85] at H
                exact absurd H (by simp)
               ·rw [if_neg c85] at H
                have c85b0 : (t184 == t185) = false := by simpa using c85
                (try (have c85b1 : decide (t184 = t185) = false := by simpa using c85))
                (try (have c85b2 : (t184 == t185) = false := by simpa using c85))
                (try (have c85b3 : ¬ (t184 = t185) := by simpa using c85))
                clear c85
                have H' := Aside0.mk H
                clear H
                have p165 : 0 ≤ (x48_2 : Int) := of_decide_eq_true (by first | (with_reducible assumption) | assumption)
                have q165 : x48_2 < (t159.length : Int) := of_decide_eq_true (by first | (with_reducible assumption) | assumption)
                obtain ⟨ad165, e165, hx165_0, hx165_1, hx165_2⟩ := at_T33 (Kd.R_reads' HO_46.out).2.2 x48_2 p165 q165
                cases e165
                replace p165 := eq_true p165
                replace q165 := eq_true q165
                go_wp2_with (first | ((with_reducible refine gate_dst (N := 8) rfl ?_); refine box_event ?hg (N := 8) ?hd (cs := #[.int .i64 0, .int .i64 0, .int .i64 0]) (t := 33) ?hr ?_; (case hd => rfl); (case hg => rfl); (case hr => first | (go_simp; done) | (go_simp; rfl)); intro gb166 hg w86 hbox hb; have n0_ := Aside0.mk (Kd.R_below (Kd.R_elderB (pxr HO_46) gb166 (Nat.le_of_eq hg.symm)) hb); have n1_ := pxk BK164 hb; have n2_ := pxs HB hb; have n3_ := Aside0.mk (hbox); have n4_ := Aside0.mk ((by rw [hg]; exact (below_size (pxb HB)) : w.heap.size ≤ gb166)); have n5_ := Aside0.mk ((by rw [hg]; exact (below_size (pxb HB)) : w.heap.size ≤ gb166)); have n6_ := Aside0.mk ((by rw [hg]; exact Nat.ne_of_lt (blk_lt (g := gb164) (o := .cells #[.int .i64 t162, .int .i64 t163] 27 (0, 0)) (pxq BK164)) : gb164 ≠ gb166)); have n7_ := Aside0.mk ((by rw [hg]; exact Nat.ne_of_gt (blk_lt (g := gb164) (o := .cells #[.int .i64 t162, .int .i64 t163] 27 (0, 0)) (pxq BK164)) : gb166 ≠ gb164)); clear HO_46; clear BK164; clear HB; have HO_46 := n0_; have BK164 := n1_; have HB := n2_; have BK166 := n3_; have GW166 := n4_; have GE166 := n5_; have NB164_166 := n6_; have NB166_164 := n7_; clear n0_ n1_ n2_ n3_ n4_ n5_ n6_ n7_; clear hb hbox hg; have hnb87 := NB166_164.out; have hnc87 := NB164_166.out; have hcz88_0 : w86.cell? ⟨gb166, 0, none⟩ = some (.int .i64 0) := (blk_cell BK166.out 0).trans rfl; have hcz88_1 : w86.cell? ⟨gb166, 1, none⟩ = some (.int .i64 0) := (blk_cell BK166.out 1).trans rfl; have hcz88_2 : w86.cell? ⟨gb166, 2, none⟩ = some (.int .i64 0) := (blk_cell BK166.out 2).trans rfl; have hfz88_0 := blk_frozen BK166.out 0; have hfz88_1 := blk_frozen BK166.out 1; have hfz88_2 := blk_frozen BK166.out 2) | ((with_reducible refine gate_callee (f := 6) rfl ?_); refine goesL_ (some 54) rfl rfl Tryz.func6 (by kernel_rfl) rfl #[.string a0, .agg #[.int .i64 ((rd_T33 t159 x48_2).f0), .int .i64 ((rd_T33 t159 x48_2).f1.f0), .int .i64 ((rd_T33 t159 x48_2).f1.f1)]] rfl (by (try simp only [List.map_toArray, List.map_cons, List.map_nil]); first | done | rfl | (simp only [List.length_drop, List.length_take]; rfl)) ?_; (with_reducible refine (lex_Say.calls a0 ((rd_T33 t159 x48_2).f0) ((rd_T33 t159 x48_2).f1.f0) ((rd_T33 t159 x48_2).f1.f1) t167 _ A17.out).mono ?_); rintro e w89 ⟨rfl, hb⟩; refine ⟨_, rfl, ?_⟩; have n0_ := Aside0.mk (Kd.R_below (by (with_reducible repeat (first | apply Kd.R_alloc | apply Kd.R_drewN | apply Kd.R_drew)); exact (Kd.R_mono (Kd.R_far (p := ⟨gb166, 2, none⟩) (Kd.R_far (p := ⟨gb166, 1, none⟩) (Kd.R_far (p := ⟨gb166, 0, none⟩) (Kd.R_mono HO_46.out (fun k_ hk => (⟨hk, hk.2⟩ : _ ∧ k_ ≠ gb166))) (fun _ hk => hk.2) (.int .i64 ((rd_T33 t159 x48_2).f0))) (fun _ hk => hk.2) (.int .i64 ((rd_T33 t159 x48_2).f1.f0))) (fun _ hk => hk.2) (.int .i64 ((rd_T33 t159 x48_2).f1.f1))) (fun _ h_ => h_.1))) hb); have n1_ := Aside0.mk (blk_below (g := gb164) (o := .cells #[.int .i64 t162, .int .i64 t163] 27 (0, 0)) (by (with_reducible repeat (first | refine blk_drewN ?_ _ | refine blk_drew ?_ | refine blk_alloc ?_ _)); refine blk_far ?_ NB164_166.out _; (with_reducible repeat (first | refine blk_drewN ?_ _ | refine blk_drew ?_ | refine blk_alloc ?_ _)); refine blk_far ?_ NB164_166.out _; (with_reducible repeat (first | refine blk_drewN ?_ _ | refine blk_drew ?_ | refine blk_alloc ?_ _)); refine blk_far ?_ NB164_166.out _; (with_reducible repeat (first | refine blk_drewN ?_ _ | refine blk_drew ?_ | refine blk_alloc ?_ _)); exact BK164.out) hb); have n2_ := Aside0.mk (blk_below (g := gb166) (o := .cells #[.int .i64 ((rd_T33 t159 x48_2).f0), .int .i64 ((rd_T33 t159 x48_2).f1.f0), .int .i64 ((rd_T33 t159 x48_2).f1.f1)] 33 (0, 0)) (by (with_reducible repeat (first | refine blk_drewN ?_ _ | refine blk_drew ?_ | refine blk_alloc ?_ _)); refine blk_put (cs := #[.int .i64 ((rd_T33 t159 x48_2).f0), .int .i64 ((rd_T33 t159 x48_2).f1.f0), .int .i64 0]) ?_ 2 _ rfl; (with_reducible repeat (first | refine blk_drewN ?_ _ | refine blk_drew ?_ | refine blk_alloc ?_ _)); refine blk_put (cs := #[.int .i64 ((rd_T33 t159 x48_2).f0), .int .i64 0, .int .i64 0]) ?_ 1 _ rfl; (with_reducible repeat (first | refine blk_drewN ?_ _ | refine blk_drew ?_ | refine blk_alloc ?_ _)); refine blk_put (cs := #[.int .i64 0, .int .i64 0, .int .i64 0]) ?_ 0 _ rfl; (with_reducible repeat (first | refine blk_drewN ?_ _ | refine blk_drew ?_ | refine blk_alloc ?_ _)); exact BK166.out) hb); have n3_ := pxs HB hb; clear HO_46; clear BK164; clear BK166; clear HB; have HO_46 := n0_; have BK164 := n1_; have BK166 := n2_; have HB := n3_; clear n0_ n1_ n2_ n3_; (try clear hb); (try clear hb2); (try clear hk); (try clear hi); have hcz90_0 : w89.cell? ⟨gb166, 0, none⟩ = some (.int .i64 ((rd_T33 t159 x48_2).f0)) := (blk_cell BK166.out 0).trans rfl; have hcz90_1 : w89.cell? ⟨gb166, 1, none⟩ = some (.int .i64 ((rd_T33 t159 x48_2).f1.f0)) := (blk_cell BK166.out 1).trans rfl; have hcz90_2 : w89.cell? ⟨gb166, 2, none⟩ = some (.int .i64 ((rd_T33 t159 x48_2).f1.f1)) := (blk_cell BK166.out 2).trans rfl; have hfz90_0 := blk_frozen BK166.out 0; have hfz90_1 := blk_frozen BK166.out 1; have hfz90_2 := blk_frozen BK166.out 2) | ((with_reducible refine gate_callee (f := 14) rfl ?_); refine goesL_ (some 159) rfl rfl Tryz.func14 (by kernel_rfl) rfl #[.string t167] rfl (by (try simp only [List.map_toArray, List.map_cons, List.map_nil]); first | done | rfl | (simp only [List.length_drop, List.length_take]; rfl)) ?_; (with_reducible refine (lex_Name.calls k2 t167 t184 _ A83.out ?gv).mono ?_); (case gv => first | exact LexW.GV.later HGV.out (pxb HB) | (repeat (first | exact HGV.out | apply LexW.GV.drewN))); rintro e w' ⟨rfl, ⟨nd, rfl⟩⟩; refine ⟨_, rfl, ?_⟩) | ((with_reducible refine gate_callee (f := 15) rfl ?_); refine goesL_ (some 161) rfl rfl Tryz.func15 (by kernel_rfl) rfl #[.string t167] rfl (by (try simp only [List.map_toArray, List.map_cons, List.map_nil]); first | done | rfl | (simp only [List.length_drop, List.length_take]; rfl)) ?_; (with_reducible refine (lex_Kept.calls t167 t185 _ A84.out ?gv).mono ?_); (case gv => first | exact LexW.GV.later HGV.out (pxb HB) | (repeat (first | exact HGV.out | apply LexW.GV.drewN))); rintro e w' ⟨rfl, ⟨nd, rfl⟩⟩; refine ⟨_, rfl, ?_⟩))
                go_roundg k2
                case measure => have := HJ2.out; have := HK2.out; omega
                case rel => exact ⟨(wrap64 (x48_2 + 1)), (by first | rfl | (simp; done) | (simp [*]; done)), H', ⟨by have := HJ2.out; have := HK2.out; omega⟩, ⟨by (with_reducible repeat (first | apply Kd.R_alloc | apply Kd.R_drewN | apply Kd.R_drew)); exact Kd.R_mono HO_46.out (fun _ hk => trivial)⟩, ⟨pxq BK164⟩, ⟨pxb HB⟩⟩
              ·rw [if_neg c82] at H
               have c82b0 : (((rd_T33 t159 x48_2).f0) == 1) = false := beq_eq_false_iff_ne.mpr c82
               have c82b1 : (((rd_T33 t159 x48_2).f0) != 1) = true := bne_iff_ne.mpr c82
               have H' := Aside0.mk H
               clear H
               have p165 : 0 ≤ (x48_2 : Int) := of_decide_eq_true (by first | (with_reducible assumption) | assumption)
               have q165 : x48_2 < (t159.length : Int) := of_decide_eq_true (by first | (with_reducible assumption) | assumption)
               obtain ⟨ad165, e165, hx165_0, hx165_1, hx165_2⟩ := at_T33 (Kd.R_reads' HO_46.out).2.2 x48_2 p165 q165
               cases e165
               replace p165 := eq_true p165
               replace q165 := eq_true q165
               go_wp2_with (first | ((with_reducible refine gate_dst (N := 8) rfl ?_); refine box_event ?hg (N := 8) ?hd (cs := #[.int .i64 0, .int .i64 0, .int .i64 0]) (t := 33) ?hr ?_; (case hd => rfl); (case hg => rfl); (case hr => first | (go_simp; done) | (go_simp; rfl)); intro gb166 hg w91 hbox hb; have n0_ := Aside0.mk (Kd.R_below (Kd.R_elderB (pxr HO_46) gb166 (Nat.le_of_eq hg.symm)) hb); have n1_ := pxk BK164 hb; have n2_ := pxs HB hb; have n3_ := Aside0.mk (hbox); have n4_ := Aside0.mk ((by rw [hg]; exact (below_size (pxb HB)) : w.heap.size ≤ gb166)); have n5_ := Aside0.mk ((by rw [hg]; exact (below_size (pxb HB)) : w.heap.size ≤ gb166)); have n6_ := Aside0.mk ((by rw [hg]; exact Nat.ne_of_lt (blk_lt (g := gb164) (o := .cells #[.int .i64 t162, .int .i64 t163] 27 (0, 0)) (pxq BK164)) : gb164 ≠ gb166)); have n7_ := Aside0.mk ((by rw [hg]; exact Nat.ne_of_gt (blk_lt (g := gb164) (o := .cells #[.int .i64 t162, .int .i64 t163] 27 (0, 0)) (pxq BK164)) : gb166 ≠ gb164)); clear HO_46; clear BK164; clear HB; have HO_46 := n0_; have BK164 := n1_; have HB := n2_; have BK166 := n3_; have GW166 := n4_; have GE166 := n5_; have NB164_166 := n6_; have NB166_164 := n7_; clear n0_ n1_ n2_ n3_ n4_ n5_ n6_ n7_; clear hb hbox hg; have hnb92 := NB166_164.out; have hnc92 := NB164_166.out; have hcz93_0 : w91.cell? ⟨gb166, 0, none⟩ = some (.int .i64 0) := (blk_cell BK166.out 0).trans rfl; have hcz93_1 : w91.cell? ⟨gb166, 1, none⟩ = some (.int .i64 0) := (blk_cell BK166.out 1).trans rfl; have hcz93_2 : w91.cell? ⟨gb166, 2, none⟩ = some (.int .i64 0) := (blk_cell BK166.out 2).trans rfl; have hfz93_0 := blk_frozen BK166.out 0; have hfz93_1 := blk_frozen BK166.out 1; have hfz93_2 := blk_frozen BK166.out 2) | ((with_reducible refine gate_callee (f := 6) rfl ?_); refine goesL_ (some 54) rfl rfl Tryz.func6 (by kernel_rfl) rfl #[.string a0, .agg #[.int .i64 ((rd_T33 t159 x48_2).f0), .int .i64 ((rd_T33 t159 x48_2).f1.f0), .int .i64 ((rd_T33 t159 x48_2).f1.f1)]] rfl (by (try simp only [List.map_toArray, List.map_cons, List.map_nil]); first | done | rfl | (simp only [List.length_drop, List.length_take]; rfl)) ?_; (with_reducible refine (lex_Say.calls a0 ((rd_T33 t159 x48_2).f0) ((rd_T33 t159 x48_2).f1.f0) ((rd_T33 t159 x48_2).f1.f1) t167 _ A17.out).mono ?_); rintro e w94 ⟨rfl, hb⟩; refine ⟨_, rfl, ?_⟩; have n0_ := Aside0.mk (Kd.R_below (by (with_reducible repeat (first | apply Kd.R_alloc | apply Kd.R_drewN | apply Kd.R_drew)); exact (Kd.R_mono (Kd.R_far (p := ⟨gb166, 2, none⟩) (Kd.R_far (p := ⟨gb166, 1, none⟩) (Kd.R_far (p := ⟨gb166, 0, none⟩) (Kd.R_mono HO_46.out (fun k_ hk => (⟨hk, hk.2⟩ : _ ∧ k_ ≠ gb166))) (fun _ hk => hk.2) (.int .i64 ((rd_T33 t159 x48_2).f0))) (fun _ hk => hk.2) (.int .i64 ((rd_T33 t159 x48_2).f1.f0))) (fun _ hk => hk.2) (.int .i64 ((rd_T33 t159 x48_2).f1.f1))) (fun _ h_ => h_.1))) hb); have n1_ := Aside0.mk (blk_below (g := gb164) (o := .cells #[.int .i64 t162, .int .i64 t163] 27 (0, 0)) (by (with_reducible repeat (first | refine blk_drewN ?_ _ | refine blk_drew ?_ | refine blk_alloc ?_ _)); refine blk_far ?_ NB164_166.out _; (with_reducible repeat (first | refine blk_drewN ?_ _ | refine blk_drew ?_ | refine blk_alloc ?_ _)); refine blk_far ?_ NB164_166.out _; (with_reducible repeat (first | refine blk_drewN ?_ _ | refine blk_drew ?_ | refine blk_alloc ?_ _)); refine blk_far ?_ NB164_166.out _; (with_reducible repeat (first | refine blk_drewN ?_ _ | refine blk_drew ?_ | refine blk_alloc ?_ _)); exact BK164.out) hb); have n2_ := Aside0.mk (blk_below (g := gb166) (o := .cells #[.int .i64 ((rd_T33 t159 x48_2).f0), .int .i64 ((rd_T33 t159 x48_2).f1.f0), .int .i64 ((rd_T33 t159 x48_2).f1.f1)] 33 (0, 0)) (by (with_reducible repeat (first | refine blk_drewN ?_ _ | refine blk_drew ?_ | refine blk_alloc ?_ _)); refine blk_put (cs := #[.int .i64 ((rd_T33 t159 x48_2).f0), .int .i64 ((rd_T33 t159 x48_2).f1.f0), .int .i64 0]) ?_ 2 _ rfl; (with_reducible repeat (first | refine blk_drewN ?_ _ | refine blk_drew ?_ | refine blk_alloc ?_ _)); refine blk_put (cs := #[.int .i64 ((rd_T33 t159 x48_2).f0), .int .i64 0, .int .i64 0]) ?_ 1 _ rfl; (with_reducible repeat (first | refine blk_drewN ?_ _ | refine blk_drew ?_ | refine blk_alloc ?_ _)); refine blk_put (cs := #[.int .i64 0, .int .i64 0, .int .i64 0]) ?_ 0 _ rfl; (with_reducible repeat (first | refine blk_drewN ?_ _ | refine blk_drew ?_ | refine blk_alloc ?_ _)); exact BK166.out) hb); have n3_ := pxs HB hb; clear HO_46; clear BK164; clear BK166; clear HB; have HO_46 := n0_; have BK164 := n1_; have BK166 := n2_; have HB := n3_; clear n0_ n1_ n2_ n3_; (try clear hb); (try clear hb2); (try clear hk); (try clear hi); have hcz95_0 : w94.cell? ⟨gb166, 0, none⟩ = some (.int .i64 ((rd_T33 t159 x48_2).f0)) := (blk_cell BK166.out 0).trans rfl; have hcz95_1 : w94.cell? ⟨gb166, 1, none⟩ = some (.int .i64 ((rd_T33 t159 x48_2).f1.f0)) := (blk_cell BK166.out 1).trans rfl; have hcz95_2 : w94.cell? ⟨gb166, 2, none⟩ = some (.int .i64 ((rd_T33 t159 x48_2).f1.f1)) := (blk_cell BK166.out 2).trans rfl; have hfz95_0 := blk_frozen BK166.out 0; have hfz95_1 := blk_frozen BK166.out 1; have hfz95_2 := blk_frozen BK166.out 2))
               go_roundg k2
               case measure => have := HJ2.out; have := HK2.out; omega
               case rel => exact ⟨(wrap64 (x48_2 + 1)), (by first | rfl | (simp; done) | (simp [*]; done)), H', ⟨by have := HJ2.out; have := HK2.out; omega⟩, ⟨by (with_reducible repeat (first | apply Kd.R_alloc | apply Kd.R_drewN | apply Kd.R_drew)); exact Kd.R_mono HO_46.out (fun _ hk => trivial)⟩, ⟨pxq BK164⟩, ⟨pxb HB⟩⟩
          ·rw [if_neg c16] at H
           exact absurd H (by simp)
         ·rw [if_neg c15] at H
          exact absurd H (by simp)
        ·rw [if_neg c14] at H
         have c14b0 : decide (x48_2 < (t159.length : Int)) = false := decide_eq_false c14
         clear c14
         obtain rfl := Option.some.inj H
         go_wp2
         go_ret
         exact ⟨by first | rfl | (simp [errW_none, errW_some] <;> rfl) | (simp [*, errW_none, errW_some] <;> rfl), pxb HB⟩
     ·rw [if_neg c9] at H
      have c9b0 : (t162 == 0) = false := beq_eq_false_iff_ne.mpr c9
      have c9b1 : (t162 != 0) = true := bne_iff_ne.mpr c9
      obtain rfl := Option.some.inj H
      go_wp2_with (first | ((with_reducible refine gate_callee (f := 5) rfl ?_); refine goesL_ (some 37) rfl rfl Tryz.func5 (by kernel_rfl) rfl #[.string a0] rfl (by (try simp only [List.map_toArray, List.map_cons, List.map_nil]); first | done | rfl | (simp only [List.length_drop, List.length_take]; rfl)) ?_; (with_reducible refine (lex_Lex.calls a0 t159 t162 t163 _ A8.out ?gv).mono ?_); (case gv => first | exact LexW.GV.later HGV.out (pxb HB) | (repeat (first | exact HGV.out | apply LexW.GV.drewN))); rintro e w96 ⟨v160, rfl, ho0, hb⟩; refine ⟨_, rfl, ?_⟩; have n0_ := Aside0.mk (Kd.R_lower ho0 (below_size (pxb HB))); have n1_ := pxs HB hb; clear HB; have HO161 := n0_; have HB := n1_; clear n0_ n1_; (try clear hb); (try clear hb2); (try clear hk); (try clear hi); (try clear ho0)) | ((with_reducible refine gate_dst (N := 6) rfl ?_); refine box_event ?hg (N := 6) ?hd (cs := #[.int .i64 0, .int .i64 0]) (t := 27) ?hr ?_; (case hd => rfl); (case hg => rfl); (case hr => first | (go_simp; done) | (go_simp; rfl)); intro gb164 hg w97 hbox hb; have n0_ := Aside0.mk (Kd.R_below (pxr HO161) hb); have n1_ := pxs HB hb; have n2_ := Aside0.mk (hbox); have n3_ := Aside0.mk ((by rw [hg]; exact (below_size (pxb HB)) : w.heap.size ≤ gb164)); have n4_ := Aside0.mk ((by rw [hg]; exact (below_size (pxb HB)) : w.heap.size ≤ gb164)); clear HO161; clear HB; have HO161 := n0_; have HB := n1_; have BK164 := n2_; have GW164 := n3_; have GE164 := n4_; clear n0_ n1_ n2_ n3_ n4_; clear hb hbox hg; have hcz98_0 : w97.cell? ⟨gb164, 0, none⟩ = some (.int .i64 0) := (blk_cell BK164.out 0).trans rfl; have hcz98_1 : w97.cell? ⟨gb164, 1, none⟩ = some (.int .i64 0) := (blk_cell BK164.out 1).trans rfl; have hfz98_0 := blk_frozen BK164.out 0; have hfz98_1 := blk_frozen BK164.out 1; obtain ⟨Ao99, co99, eo99⟩ := Kd.R_slice HO161.out; subst eo99))
      go_ret
      exact ⟨by first | rfl | (simp [errW_none, errW_some] <;> rfl) | (simp [*, errW_none, errW_some] <;> rfl), pxb HB⟩

/-- THE ONE PURE STATEMENT of caulkertop_WholeTokens. -/
def caulkertop_WholeTokens.Pure : Prop := ∀ (a0 : ByteArray), a0.size ≤ 140737488351232 → ∃ k, caulkertop_WholeTokens.f k a0 = some true

end Go.Proofs.YtmikdofplolmjaaGreatDoor.X
