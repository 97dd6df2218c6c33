/- What the program's functions answer, as Lean functions, and that each call does just that; no condition. Written by a program (px.py) out of the translation. -/
import Derived.Test.YtlcblkjgkaiadaaX0
import Derived.Test.YtlcblkjgkaiadaaXE26
import Derived.Test.YtlcblkjgkaiadaaX9
import Derived.Test.YtlcblkjgkaiadaaX8
import Derived.Test.YtlcblkjgkaiadaaLexW
import Derived.Test.YtlcblkjgkaiadaaShort3
namespace Go.Proofs.Ytlcblkjgkaiadaa.X
open Go.RowKit Go.Proofs.YtlcblkjgkaiadaaW.PrintWords Go.Proofs.YtlcblkjgkaiadaaW.PrintLast Go.Proofs.YtlcblkjgkaiadaaW.PrintMore
attribute [local go_sem] max2_int min2_int max_two min_two max_three min_three max_four min_four   -- for this text's walks alone
set_option linter.unusedVariables false
set_option linter.unusedSimpArgs false

attribute [local go_sem high] eqA26
/-! ### caulkerlaw06_LexLimits: function 7 -/
mutual
def caulkerlaw06_LexLimits.j0 : Nat → Int → Int → Bool → Option (Bool)
 | 0, _, _, _ => none
 | k + 1, x0, x1, x33 => if x33 = true then (some true) else (if 0 ≤ x0 then (if (x0 : Int).toNat ≤ 281474976710656 then ((some (List.replicate (x0 : Int).toNat 0 : List Int)).bind fun y193 => (caulkerlaw06_LexLimits.l0 k x0 x1 y193 (y193.length : Int) 0)) else (none)) else (none))
def caulkerlaw06_LexLimits.l0 : Nat → Int → Int → List Int → Int → Int → Option (Bool)
 | 0, _, _, _, _, _ => none
 | k + 1, x0, x1, x5, x37, x38 => if x38 < x37 then (if 0 ≤ x38 then (if x38 < (x5.length : Int) then (caulkerlaw06_LexLimits.l0 k x0 x1 (x5.set (x38 : Int).toNat 59) x37 (wrap64 (x38 + 1))) else (none)) else (none)) else ((lex_Lex.f (strOfNums x5)).bind fun bt197 => (if x0 > 16384 then (if (!(bt197.2.1 == 2) || (!(bt197.2.2 == 16384))) = true then (none) else (if (bt197.1.length : Int) = 0 then (caulkerlaw06_LexLimits.j2 k x1) else (none))) else (if bt197.2.1 = 0 then (if (bt197.1.length : Int) = (wrap64 (x0 + 1)) then (caulkerlaw06_LexLimits.j2 k x1) else (none)) else (none))))
def caulkerlaw06_LexLimits.j2 : Nat → Int → Option (Bool)
 | 0, _ => none
 | k + 1, x1 => if 0 ≤ x1 then (if (x1 : Int).toNat ≤ 281474976710656 then (caulkerlaw06_LexLimits.l1 k x1 (List.replicate (x1 : Int).toNat 0) (List.replicate (x1 : Int).toNat 0) x1 0) else (none)) else (none)
def caulkerlaw06_LexLimits.l1 : Nat → Int → List Int → List Int → Int → Int → Option (Bool)
 | 0, _, _, _, _, _ => none
 | k + 1, x1, x9, x10, x75, x76 => if x76 < x75 then (if 0 ≤ x76 then (if x76 < (x9.length : Int) then (if x76 < (x10.length : Int) then (caulkerlaw06_LexLimits.l1 k x1 (x9.set (x76 : Int).toNat 119) (x10.set (x76 : Int).toNat 49) x75 (wrap64 (x76 + 1))) else (none)) else (none)) else (none)) else ((lex_Lex.f (strOfNums x9)).bind fun bt211 => ((lex_Lex.f (strOfNums x10)).bind fun bt217 => (if 1 + (strOfNums x9).size ≤ 9223372036854775807 then (if ((⟨#[34]⟩ : ByteArray) ++ (strOfNums x9)).size + 1 ≤ 9223372036854775807 then ((lex_Lex.f (((⟨#[34]⟩ : ByteArray) ++ (strOfNums x9)) ++ (⟨#[34]⟩ : ByteArray))).bind fun bt223 => (if ((bt211.2.1 == 2) == (decide (x1 > 64))) = true then (if ((bt217.2.1 == 2) == (decide (x1 > 20))) = true then (some ((bt223.2.1 == 2) == (decide (x1 > 254)))) else (none)) else (none))) else (none)) else (none))))
end
def caulkerlaw06_LexLimits.f (k : Nat) (a0 : Int) (a1 : Int) : Option (Bool) := (caulkerlaw06_cuts.f k).bind fun t192 => (if t192 = true then (if a0 < 0 then (caulkerlaw06_LexLimits.j0 k a0 a1 true) else (if a0 > 17000 then (caulkerlaw06_LexLimits.j0 k a0 a1 true) else (if a1 < 1 then (caulkerlaw06_LexLimits.j0 k a0 a1 true) else (caulkerlaw06_LexLimits.j0 k a0 a1 (decide (a1 > 300)))))) else (none))
theorem caulkerlaw06_LexLimits.mono_l : ∀ k, (∀ y0 y1 y2, LeO (caulkerlaw06_LexLimits.j0 k y0 y1 y2) (caulkerlaw06_LexLimits.j0 (k + 1) y0 y1 y2)) ∧ (∀ y0 y1 y2 y3 y4, LeO (caulkerlaw06_LexLimits.l0 k y0 y1 y2 y3 y4) (caulkerlaw06_LexLimits.l0 (k + 1) y0 y1 y2 y3 y4)) ∧ (∀ y0, LeO (caulkerlaw06_LexLimits.j2 k y0) (caulkerlaw06_LexLimits.j2 (k + 1) y0)) ∧ (∀ y0 y1 y2 y3 y4, LeO (caulkerlaw06_LexLimits.l1 k y0 y1 y2 y3 y4) (caulkerlaw06_LexLimits.l1 (k + 1) y0 y1 y2 y3 y4))
 | 0 => ⟨fun _ _ _ r h => by simp [caulkerlaw06_LexLimits.j0] at h, fun _ _ _ _ _ r h => by simp [caulkerlaw06_LexLimits.l0] at h, fun _ r h => by simp [caulkerlaw06_LexLimits.j2] at h, fun _ _ _ _ _ r h => by simp [caulkerlaw06_LexLimits.l1] at h⟩
 | k + 1 => by
  obtain ⟨ih0, ih1, ih2, ih3⟩ := caulkerlaw06_LexLimits.mono_l k
  refine ⟨?_, ?_, ?_, ?_⟩
  ·intro y0 y1 y2
   unfold caulkerlaw06_LexLimits.j0
   repeat' first
   | (with_reducible exact ih0 _ _ _)
   | (with_reducible exact ih1 _ _ _ _ _)
   | (with_reducible exact ih2 _)
   | (with_reducible exact ih3 _ _ _ _ _)
   | (with_reducible exact caulkerlaw06_cuts.mono _)
   | (with_reducible exact LeO.refl _)
   | (with_reducible exact LeO.none _)
   | (with_reducible refine LeO.ite ?_ ?_)
   | (with_reducible refine LeO.bind ?_ (fun _ => ?_))
   | exact ih0 _ _ _
   | exact ih1 _ _ _ _ _
   | exact ih2 _
   | exact ih3 _ _ _ _ _
   | exact caulkerlaw06_cuts.mono _
   | exact LeO.none _
   | refine LeO.ite ?_ ?_
   | refine LeO.bind ?_ (fun _ => ?_)
  ·intro y0 y1 y2 y3 y4
   unfold caulkerlaw06_LexLimits.l0
   repeat' first
   | (with_reducible exact ih0 _ _ _)
   | (with_reducible exact ih1 _ _ _ _ _)
   | (with_reducible exact ih2 _)
   | (with_reducible exact ih3 _ _ _ _ _)
   | (with_reducible exact caulkerlaw06_cuts.mono _)
   | (with_reducible exact LeO.refl _)
   | (with_reducible exact LeO.none _)
   | (with_reducible refine LeO.ite ?_ ?_)
   | (with_reducible refine LeO.bind ?_ (fun _ => ?_))
   | exact ih0 _ _ _
   | exact ih1 _ _ _ _ _
   | exact ih2 _
   | exact ih3 _ _ _ _ _
   | exact caulkerlaw06_cuts.mono _
   | exact LeO.none _
   | refine LeO.ite ?_ ?_
   | refine LeO.bind ?_ (fun _ => ?_)
  ·intro y0
   unfold caulkerlaw06_LexLimits.j2
   repeat' first
   | (with_reducible exact ih0 _ _ _)
   | (with_reducible exact ih1 _ _ _ _ _)
   | (with_reducible exact ih2 _)
   | (with_reducible exact ih3 _ _ _ _ _)
   | (with_reducible exact caulkerlaw06_cuts.mono _)
   | (with_reducible exact LeO.refl _)
   | (with_reducible exact LeO.none _)
   | (with_reducible refine LeO.ite ?_ ?_)
   | (with_reducible refine LeO.bind ?_ (fun _ => ?_))
   | exact ih0 _ _ _
   | exact ih1 _ _ _ _ _
   | exact ih2 _
   | exact ih3 _ _ _ _ _
   | exact caulkerlaw06_cuts.mono _
   | exact LeO.none _
   | refine LeO.ite ?_ ?_
   | refine LeO.bind ?_ (fun _ => ?_)
  ·intro y0 y1 y2 y3 y4
   unfold caulkerlaw06_LexLimits.l1
   repeat' first
   | (with_reducible exact ih0 _ _ _)
   | (with_reducible exact ih1 _ _ _ _ _)
   | (with_reducible exact ih2 _)
   | (with_reducible exact ih3 _ _ _ _ _)
   | (with_reducible exact caulkerlaw06_cuts.mono _)
   | (with_reducible exact LeO.refl _)
   | (with_reducible exact LeO.none _)
   | (with_reducible refine LeO.ite ?_ ?_)
   | (with_reducible refine LeO.bind ?_ (fun _ => ?_))
   | exact ih0 _ _ _
   | exact ih1 _ _ _ _ _
   | exact ih2 _
   | exact ih3 _ _ _ _ _
   | exact caulkerlaw06_cuts.mono _
   | exact LeO.none _
   | refine LeO.ite ?_ ?_
   | refine LeO.bind ?_ (fun _ => ?_)
theorem caulkerlaw06_LexLimits.mono : ∀ a0 a1 k, LeO (caulkerlaw06_LexLimits.f k a0 a1) (caulkerlaw06_LexLimits.f (k + 1) a0 a1) := by
 intro a0 a1 k
 obtain ⟨ih0, ih1, ih2, ih3⟩ := caulkerlaw06_LexLimits.mono_l k
 unfold caulkerlaw06_LexLimits.f
 repeat' first
   | (with_reducible exact ih0 _ _ _)
   | (with_reducible exact ih1 _ _ _ _ _)
   | (with_reducible exact ih2 _)
   | (with_reducible exact ih3 _ _ _ _ _)
   | (with_reducible exact caulkerlaw06_cuts.mono _)
   | (with_reducible exact LeO.refl _)
   | (with_reducible exact LeO.none _)
   | (with_reducible refine LeO.ite ?_ ?_)
   | (with_reducible refine LeO.bind ?_ (fun _ => ?_))
   | exact ih0 _ _ _
   | exact ih1 _ _ _ _ _
   | exact ih2 _
   | exact ih3 _ _ _ _ _
   | exact caulkerlaw06_cuts.mono _
   | exact LeO.none _
   | refine LeO.ite ?_ ?_
   | refine LeO.bind ?_ (fun _ => ?_)
set_option maxHeartbeats 8000000 in
set_option maxRecDepth 100000 in
theorem caulkerlaw06_LexLimits.calls (k : Nat) (a0 : Int) (a1 : Int) (r : Bool) (w : World) (h : caulkerlaw06_LexLimits.f k a0 a1 = some r) (hgv : LexW.GV w) :
  Calls Try.prog 7 #[.int .i64 a0, .int .i64 a1] w fun e w' => e = .returned (.bool r) ∧ Below w.heap.size w w' := by
 have HGV := Aside0.mk hgv
 clear hgv
 have hu26 := Try.underlying26
 have HB := Aside0.mk (Below.refl w.heap.size w)
 have H : ((caulkerlaw06_cuts.f k).bind fun t192 => (if t192 = true then (if a0 < 0 then (caulkerlaw06_LexLimits.j0 k a0 a1 true) else (if a0 > 17000 then (caulkerlaw06_LexLimits.j0 k a0 a1 true) else (if a1 < 1 then (caulkerlaw06_LexLimits.j0 k a0 a1 true) else (caulkerlaw06_LexLimits.j0 k a0 a1 (decide (a1 > 300)))))) else (none))) = some r := h
 clear h
 replace H := Option.bind_eq_some_iff.mp H
 obtain ⟨t192, A30, H⟩ := H
 replace H : (if t192 = true then (if a0 < 0 then (caulkerlaw06_LexLimits.j0 k a0 a1 true) else (if a0 > 17000 then (caulkerlaw06_LexLimits.j0 k a0 a1 true) else (if a1 < 1 then (caulkerlaw06_LexLimits.j0 k a0 a1 true) else (caulkerlaw06_LexLimits.j0 k a0 a1 (decide (a1 > 300)))))) else (none)) = some r := H
 have A3 := Aside0.mk A30
 clear A30
 by_cases c4 : t192 = true
 ·subst c4
  have H1 : (if a0 < 0 then (caulkerlaw06_LexLimits.j0 k a0 a1 true) else (if a0 > 17000 then (caulkerlaw06_LexLimits.j0 k a0 a1 true) else (if a1 < 1 then (caulkerlaw06_LexLimits.j0 k a0 a1 true) else (caulkerlaw06_LexLimits.j0 k a0 a1 (decide (a1 > 300)))))) = some r := by rw [if_pos rfl] at H; exact H
  clear H
  have H := H1
  clear H1
  have HC5 := Aside0.mk H
  clear H
  go_enter Try.func7, Try.ntmps7
  go_upto_region 3 with (first | ((with_reducible refine gate_callee (f := 8) rfl ?_); refine goesL_ (some 18) rfl rfl Try.func8 (by kernel_rfl) rfl #[] rfl (by (try simp only [List.map_toArray, List.map_cons, List.map_nil]); first | done | rfl | (simp only [List.length_drop, List.length_take]; rfl)) ?_; (with_reducible refine (caulkerlaw06_cuts.calls k  true _ A3.out ?gv).mono ?_); (case gv => first | exact LexW.GV.later HGV.out (pxb HB) | (repeat (first | exact HGV.out | apply LexW.GV.drewN))); rintro e w6 ⟨rfl, hb⟩; refine ⟨_, rfl, ?_⟩; have n0_ := pxs HB hb; clear HB; have HB := n0_; clear n0_; (try clear hb); (try clear hb2); (try clear hk); (try clear hi)))
  (try simp only [Act.put, List.setIfInBounds_toArray, List.set_cons_zero, List.set_cons_succ])
  go_cut [33] (fun v33 wc => ∃ (kq : Nat) (x33_4 : Bool), v33 = .bool x33_4 ∧ Aside0 (caulkerlaw06_LexLimits.j0 kq a0 a1 x33_4 = some r) ∧ Aside0 (kq ≤ k) ∧ Aside0 (Below w.heap.size w wc))
  case first =>
   have H := HC5.out
   clear HC5
   by_cases c7 : a0 < 0
   ·rw [if_pos c7] at H
    have c7b0 : decide (a0 < 0) = true := decide_eq_true c7
    clear c7
    (first | rw [c7b0] | (simp only [i64_w, i32_w]; rw [c7b0]) | skip)
    have H' := Aside0.mk H
    clear H
    go_wp2
    go_meet
    case rel => exact ⟨_, (true), (by first | rfl | (simp; done) | (simp [*]; done)), H', ⟨by first | omega | exact Nat.le_refl _⟩, ⟨pxb HB⟩⟩
   ·rw [if_neg c7] at H
    have c7b0 : decide (a0 < 0) = false := decide_eq_false c7
    clear c7
    (first | rw [c7b0] | (simp only [i64_w, i32_w]; rw [c7b0]) | skip)
    by_cases c8 : a0 > 17000
    ·rw [if_pos c8] at H
     have c8b0 : decide (17000 < a0) = true := decide_eq_true c8
     clear c8
     have H' := Aside0.mk H
     clear H
     go_wp2
     go_meet
     case rel => exact ⟨_, (true), (by first | rfl | (simp; done) | (simp [*]; done)), H', ⟨by first | omega | exact Nat.le_refl _⟩, ⟨pxb HB⟩⟩
    ·rw [if_neg c8] at H
     have c8b0 : decide (17000 < a0) = false := decide_eq_false c8
     clear c8
     by_cases c9 : a1 < 1
     ·rw [if_pos c9] at H
      have c9b0 : decide (a1 < 1) = true := decide_eq_true c9
      clear c9
      have H' := Aside0.mk H
      clear H
      go_wp2
      go_meet
      case rel => exact ⟨_, (true), (by first | rfl | (simp; done) | (simp [*]; done)), H', ⟨by first | omega | exact Nat.le_refl _⟩, ⟨pxb HB⟩⟩
     ·rw [if_neg c9] at H
      have c9b0 : decide (a1 < 1) = false := decide_eq_false c9
      clear c9
      have H' := Aside0.mk H
      clear H
      go_wp2
      go_meet
      case rel => exact ⟨_, (decide (a1 > 300)), (by first | rfl | (simp; done) | (simp [*]; done)), H', ⟨by first | omega | exact Nat.le_refl _⟩, ⟨pxb HB⟩⟩
  case rest =>
   clear HC5
   try clear p2
   try clear c4
   try clear c7
   try clear c7b0
   try clear c8
   try clear c8b0
   try clear c9
   try clear c9b0
   obtain ⟨kq, x33_4, rfl, HA, HJ4, HB⟩ := hcut
   cases kq with
   | zero => exact absurd HA.out (by simp [caulkerlaw06_LexLimits.j0])
   | succ kj4 =>
    have H := HA.out
    clear HA
    simp only [caulkerlaw06_LexLimits.j0] at H
    by_cases c10 : x33_4 = true
    ·subst c10
     have H1 : (some true) = some r := by rw [if_pos rfl] at H; exact H
     clear H
     have H := H1
     clear H1
     obtain rfl := Option.some.inj H
     go_wp2
     go_ret
     exact ⟨by first | rfl | (simp [errW_none, errW_some] <;> rfl) | (simp [*, errW_none, errW_some] <;> rfl), pxb HB⟩
    ·replace c10 := Bool.eq_false_iff.mpr c10
     subst c10
     have H1 : (if 0 ≤ a0 then (if (a0 : Int).toNat ≤ 281474976710656 then ((some (List.replicate (a0 : Int).toNat 0 : List Int)).bind fun y193 => (caulkerlaw06_LexLimits.l0 kj4 a0 a1 y193 (y193.length : Int) 0)) else (none)) else (none)) = some r := by rw [if_neg (show ¬ (false = true) by decide)] at H; exact H
     clear H
     have H := H1
     clear H1
     by_cases c11 : 0 ≤ a0
     ·rw [if_pos c11] at H
      have c11b0 := eq_true c11
      have c11b1 : decide (0 ≤ a0) = true := decide_eq_true c11
      clear c11
      by_cases c12 : (a0 : Int).toNat ≤ 281474976710656
      ·rw [if_pos c12] at H
       have c12b0 := eq_true c12
       have c12b1 : decide ((a0 : Int).toNat ≤ 281474976710656) = true := decide_eq_true c12
       clear c12
       obtain ⟨y193, hy193⟩ : ∃ y_ : List Int, y_ = (List.replicate (a0 : Int).toNat 0) := ⟨_, rfl⟩
       replace H : (caulkerlaw06_LexLimits.l0 kj4 a0 a1 y193 (y193.length : Int) 0) = some r := by first | (rw [hy193]; with_reducible exact H) | (have H2_ := (Option.bind_some _ _).symm.trans H; rw [hy193]; with_reducible exact H2_) | (have H2_ := (Option.bind_some _ _).symm.trans H; with_reducible exact H2_) | with_reducible exact H | (rw [hy193]; exact H) | exact H
       have Ny193 := Aside0.mk hy193
       clear hy193
       have H' := Aside0.mk H
       clear H
       go_wp2_with (first | ((with_reducible refine gate_dst (N := 35) rfl ?_); refine Kd.R_make (Kd.int .u8) _ 5 rfl (N := 35) rfl 38 _ _ rfl a0 rfl rfl Try.underlying38 (.int .u8 0) 1 info5 rfl (by decide) (by omega) 0 (ok := fun _ => True) (okp := fun _ => True) rfl (fun _ hk => hk) trivial (of_decide_eq_true (by first | (with_reducible assumption) | assumption)) (Nat.le_trans (Nat.mul_le_mul_right _ (of_decide_eq_true (by first | (with_reducible assumption) | assumption) : a0.toNat ≤ 281474976710656)) (by omega)) (Below.refl _ _) (Nat.le_refl _) ?_; intro v194 w13 ho14 hb hg_ hnew_; clear hg_ hnew_; (first | rw [← Ny193.out] at ho14 | (simp only [Int.reduceToNat] at ho14; rw [← Ny193.out] at ho14)); have n0_ := Aside0.mk (Kd.R_lower ho14 (below_size (pxb HB))); have n1_ := pxs HB hb; clear HB; have HO195 := n0_; have HB := n1_; clear n0_ n1_; clear hb ho14; obtain ⟨Ao15, co15, eo15⟩ := Kd.R_slice HO195.out; subst eo15))
       go_loopg [38] kj4 (fun kq v38 w' => ∃ (x5_2 : List Int) (x38_2 : Int), v38 = .int .i64 x38_2 ∧ Aside0 (caulkerlaw06_LexLimits.l0 kq a0 a1 x5_2 (y193.length : Int) x38_2 = some r) ∧ Aside0 (kq ≤ kj4) ∧ Aside0 (Kd.R (Kd.int .u8) 5 w' w.heap.size (fun _ => True) (.slice Ao15 y193.length co15) x5_2) ∧ Aside0 (Below w.heap.size w w'))
       case atStart => exact ⟨(y193), (0), (by first | rfl | (simp; done) | (simp [*]; done)), H', ⟨Nat.le_refl _⟩, ⟨pxr HO195⟩, ⟨pxb HB⟩⟩
       case round =>
        clear H'
        try clear c1
        try clear p2
        try clear c4
        try clear c7
        try clear c7b0
        try clear c8
        try clear c8b0
        try clear c9
        try clear c9b0
        try clear c10
        try clear c11
        try clear c11b0
        try clear c11b1
        try clear c12
        try clear c12b0
        try clear c12b1
        try clear p2
        obtain ⟨x5_2, x38_2, rfl, HA, HK2, HO_5, HB⟩ := hrel
        have hl5_2 := (Kd.R_reads' HO_5.out).1
        rw [hl5_2] at HO_5
        (try simp only [hl5_2])
        cases gk with
        | zero => exact absurd HA.out (by simp [caulkerlaw06_LexLimits.l0])
        | succ k2 =>
         have H := HA.out
         clear HA
         simp only [caulkerlaw06_LexLimits.l0] at H
         by_cases c16 : x38_2 < (y193.length : Int)
         ·rw [if_pos c16] at H
          have c16b0 : decide (x38_2 < (y193.length : Int)) = true := decide_eq_true c16
          clear c16
          by_cases c17 : 0 ≤ x38_2
          ·rw [if_pos c17] at H
           have c17b0 : decide (0 ≤ x38_2) = true := decide_eq_true c17
           clear c17
           by_cases c18 : x38_2 < (x5_2.length : Int)
           ·rw [if_pos c18] at H
            have c18b0 : decide (x38_2 < (x5_2.length : Int)) = true := decide_eq_true c18
            clear c18
            obtain ⟨y196, hy196⟩ : ∃ y_ : List Int, y_ = (x5_2.set (x38_2 : Int).toNat 59) := ⟨_, rfl⟩
            replace H : (caulkerlaw06_LexLimits.l0 k2 a0 a1 y196 (y193.length : Int) (wrap64 (x38_2 + 1))) = some r := by first | (rw [hy196]; with_reducible exact H) | (have H2_ := (Option.bind_some _ _).symm.trans H; rw [hy196]; with_reducible exact H2_) | (have H2_ := (Option.bind_some _ _).symm.trans H; with_reducible exact H2_) | with_reducible exact H | (rw [hy196]; exact H) | exact H
            have Ny196 := Aside0.mk hy196
            clear hy196
            have H' := Aside0.mk H
            clear H
            have p19 : 0 ≤ (x38_2 : Int) := of_decide_eq_true (by first | (with_reducible assumption) | assumption)
            have q19 : (x38_2 : Int) < ((x5_2.length : Int) : Int) := of_decide_eq_true (by first | (with_reducible assumption) | assumption)
            obtain ⟨go19, co19, eo19, gb19, gl19, cl19, HG19⟩ := Kd.R_form HO_5.out (by omega)
            (first | cases eo19 | (injection eo19 with ea_ en_ ec_; (first | subst ea_ | (injection ea_ with ea_; subst ea_)); subst ec_; clear en_))
            have GB19 := Aside0.mk gb19
            have GG19 := Aside0.mk HG19
            clear gb19 gl19 HG19
            obtain ⟨hx19_0, hf19_0⟩ := Kd.R_celln 0 HO_5.out (x38_2 : Int) p19 q19
            replace p19 := eq_true p19
            replace q19 := eq_true q19
            have HP20 := Kd.R_putg HO_5.out (x38_2 : Int) 59
            go_wp2_with (first | ((with_reducible refine gate_store (t := 5) (p := 43) rfl ?_); refine store_event (t := 5) (p := 43) (v := ?vo_w21) (w1 := (wr.setCell ⟨go19, (x38_2 : Int).toNat, none⟩ (.int .u8 59))) ?hg ?ho ?hn ?hr ?_; (case ho => rfl); (case hg => rfl); (case hn => rfl); (case hr => first | (go_simp; done) | (go_simp; rfl)); intro w21 hw; have hg : wr.grownBy w21 (some go19) := (by rw [hw]; exact HP20.2); have hp_ : Kd.R (Kd.int .u8) 5 w21 w.heap.size (fun _ => True) (.slice (some ⟨go19, 0, none⟩) x5_2.length co15) y196 := (by rw [hw, Ny196.out]; exact HP20.1); clear HP20; have n0_ := Aside0.mk (hp_); have n1_ := Aside0.mk ((by rw [hw]; exact below_set (HB.out) GB19.out : Below w.heap.size w w21)); clear HO_5; clear HB; have HO_5 := n0_; have HB := n1_; clear n0_ n1_; clear hg hw hp_))
            (try simp only [← hl5_2])
            go_roundg k2
            case measure => have := HJ4.out; have := HK2.out; omega
            case rel => exact ⟨(y196), (wrap64 (x38_2 + 1)), (by first | rfl | (simp; done) | (simp [*]; done)), H', ⟨by have := HJ4.out; have := HK2.out; omega⟩, ⟨by (try simp only [hl5_2]); (with_reducible repeat (first | apply Kd.R_alloc | apply Kd.R_drewN | apply Kd.R_drew)); exact HO_5.out⟩, ⟨pxb HB⟩⟩
           ·rw [if_neg c18] at H
            exact absurd H (by simp)
          ·rw [if_neg c17] at H
           exact absurd H (by simp)
         ·rw [if_neg c16] at H
          have c16b0 : decide (x38_2 < (y193.length : Int)) = false := decide_eq_false c16
          (try rw [hl5_2] at c16b0)
          clear c16
          replace H := Option.bind_eq_some_iff.mp H
          obtain ⟨⟨t197, t200, t201⟩, A220, H⟩ := H
          replace H : (if a0 > 16384 then (if (!(t200 == 2) || (!(t201 == 16384))) = true then (none) else (if (t197.length : Int) = 0 then (caulkerlaw06_LexLimits.j2 k2 a1) else (none))) else (if t200 = 0 then (if (t197.length : Int) = (wrap64 (a0 + 1)) then (caulkerlaw06_LexLimits.j2 k2 a1) else (none)) else (none))) = some r := H
          have A22 := Aside0.mk A220
          clear A220
          have HC23 := Aside0.mk H
          clear H
          have hcv24 := own_string (P := Try.prog) Try.underlying38 Try.underlying5 Try.underlying9 (Kd.own_of_R HO_5.out)
          go_upto_if 52 with (first | ((with_reducible refine gate_callee (f := 9) rfl ?_); refine goesL_ (some 48) rfl rfl Try.func9 (by kernel_rfl) rfl #[.string (strOfNums x5_2)] rfl (by (try simp only [List.map_toArray, List.map_cons, List.map_nil]); first | done | rfl | (simp only [List.length_drop, List.length_take]; rfl)) ?_; (with_reducible refine (lex_Lex.calls (strOfNums x5_2) t197 t200 t201 _ A22.out ?gv).mono ?_); (case gv => first | exact LexW.GV.later HGV.out (pxb HB) | (repeat (first | exact HGV.out | apply LexW.GV.drewN))); rintro e w25 ⟨v198, rfl, ho0, hb⟩; refine ⟨_, rfl, ?_⟩; have n0_ := Aside0.mk (Kd.R_below (pxr HO_5) hb); have n1_ := Aside0.mk (Kd.R_lower ho0 (below_size (pxb HB))); have n2_ := pxs HB hb; clear HO_5; clear HB; have HO_5 := n0_; have HO199 := n1_; have HB := n2_; clear n0_ n1_ n2_; (try clear hb); (try clear hb2); (try clear hk); (try clear hi); (try clear ho0)) | ((with_reducible refine gate_dst (N := 8) rfl ?_); refine box_event ?hg (N := 8) ?hd (cs := #[.int .i64 0, .int .i64 0]) (t := 26) ?hr ?_; (case hd => rfl); (case hg => rfl); (case hr => first | (go_simp; done) | (go_simp; rfl)); intro gb202 hg w26 hbox hb; have n0_ := Aside0.mk (Kd.R_below (pxr HO_5) hb); have n1_ := Aside0.mk (Kd.R_below (pxr HO199) hb); have n2_ := pxs HB hb; have n3_ := Aside0.mk (hbox); have n4_ := Aside0.mk ((by rw [hg]; exact (below_size (pxb HB)) : w.heap.size ≤ gb202)); have n5_ := Aside0.mk ((by rw [hg]; exact (below_size (pxb HB)) : w.heap.size ≤ gb202)); clear HO_5; clear HO199; clear HB; have HO_5 := n0_; have HO199 := n1_; have HB := n2_; have BK202 := n3_; have GW202 := n4_; have GE202 := n5_; clear n0_ n1_ n2_ n3_ n4_ n5_; clear hb hbox hg; have hcz27_0 : w26.cell? ⟨gb202, 0, none⟩ = some (.int .i64 0) := (blk_cell BK202.out 0).trans rfl; have hcz27_1 : w26.cell? ⟨gb202, 1, none⟩ = some (.int .i64 0) := (blk_cell BK202.out 1).trans rfl; have hfz27_0 := blk_frozen BK202.out 0; have hfz27_1 := blk_frozen BK202.out 1))
          (try simp only [Act.put, List.setIfInBounds_toArray, List.set_cons_zero, List.set_cons_succ])
          go_cut [] (fun wc => ∃ (kq : Nat), Aside0 (caulkerlaw06_LexLimits.j2 kq a1 = some r) ∧ Aside0 (kq ≤ k2) ∧ Aside0 (wc.heap[gb202]? = some (.cells #[.int .i64 t200, .int .i64 t201] 26 (0, 0))) ∧ Aside0 (Below w.heap.size w wc))
          case first =>
           have H := HC23.out
           clear HC23
           by_cases c28 : a0 > 16384
           ·rw [if_pos c28] at H
            have c28b0 : decide (16384 < a0) = true := decide_eq_true c28
            clear c28
            (first | rw [c28b0] | (simp only [i64_w, i32_w]; rw [c28b0]) | skip)
            by_cases c29 : (!(t200 == 2) || (!(t201 == 16384))) = true
            ·rw [if_pos c29] at H
             exact absurd H (by simp)
            ·rw [if_neg c29] at H
             have c29b0 : (!(t200 == 2) || (!(t201 == 16384))) = false := by simpa using c29
             clear c29
             by_cases c30 : (t197.length : Int) = 0
             ·rw [if_pos c30] at H
              have c30b0 : ((t197.length : Int) == 0) = true := beq_iff_eq.mpr c30
              have c30b1 : ((t197.length : Int) != 0) = false := bne_eq_false_iff_eq.mpr c30
              clear c30
              have H' := Aside0.mk H
              clear H
              have hcz31_0 : w26.cell? ⟨gb202, 0, none⟩ = some (.int .i64 0) := (blk_cell BK202.out 0).trans rfl
              have hcz31_1 : w26.cell? ⟨gb202, 1, none⟩ = some (.int .i64 0) := (blk_cell BK202.out 1).trans rfl
              have hfz31_0 := blk_frozen BK202.out 0
              have hfz31_1 := blk_frozen BK202.out 1
              obtain ⟨Ao32, co32, eo32⟩ := Kd.R_slice HO199.out
              subst eo32
              go_wp2
              go_meet
              case rel => exact ⟨_, H', ⟨by have := HJ4.out; have := HK2.out; first | omega | exact Nat.le_refl _⟩, ⟨by (try simp only [hl5_2]); (with_reducible repeat (first | refine blk_drewN ?_ _ | refine blk_drew ?_ | refine blk_alloc ?_ _)); refine blk_put (cs := #[.int .i64 t200, .int .i64 0]) ?_ 1 _ rfl; (with_reducible repeat (first | refine blk_drewN ?_ _ | refine blk_drew ?_ | refine blk_alloc ?_ _)); refine blk_put (cs := #[.int .i64 0, .int .i64 0]) ?_ 0 _ rfl; (with_reducible repeat (first | refine blk_drewN ?_ _ | refine blk_drew ?_ | refine blk_alloc ?_ _)); exact BK202.out⟩, ⟨pxb HB⟩⟩
             ·rw [if_neg c30] at H
              exact absurd H (by simp)
           ·rw [if_neg c28] at H
            have c28b0 : decide (16384 < a0) = false := decide_eq_false c28
            clear c28
            (first | rw [c28b0] | (simp only [i64_w, i32_w]; rw [c28b0]) | skip)
            by_cases c33 : t200 = 0
            ·rw [if_pos c33] at H
             have c33b0 : (t200 == 0) = true := beq_iff_eq.mpr c33
             have c33b1 : (t200 != 0) = false := bne_eq_false_iff_eq.mpr c33
             clear c33
             by_cases c34 : (t197.length : Int) = (wrap64 (a0 + 1))
             ·rw [if_pos c34] at H
              have c34b0 : ((t197.length : Int) == (wrap64 (a0 + 1))) = true := beq_iff_eq.mpr c34
              have c34b1 : ((t197.length : Int) != (wrap64 (a0 + 1))) = false := bne_eq_false_iff_eq.mpr c34
              clear c34
              have H' := Aside0.mk H
              clear H
              have hcz35_0 : w26.cell? ⟨gb202, 0, none⟩ = some (.int .i64 0) := (blk_cell BK202.out 0).trans rfl
              have hcz35_1 : w26.cell? ⟨gb202, 1, none⟩ = some (.int .i64 0) := (blk_cell BK202.out 1).trans rfl
              have hfz35_0 := blk_frozen BK202.out 0
              have hfz35_1 := blk_frozen BK202.out 1
              obtain ⟨Ao36, co36, eo36⟩ := Kd.R_slice HO199.out
              subst eo36
              go_wp2
              go_meet
              case rel => exact ⟨_, H', ⟨by have := HJ4.out; have := HK2.out; first | omega | exact Nat.le_refl _⟩, ⟨by (try simp only [hl5_2]); (with_reducible repeat (first | refine blk_drewN ?_ _ | refine blk_drew ?_ | refine blk_alloc ?_ _)); refine blk_put (cs := #[.int .i64 t200, .int .i64 0]) ?_ 1 _ rfl; (with_reducible repeat (first | refine blk_drewN ?_ _ | refine blk_drew ?_ | refine blk_alloc ?_ _)); refine blk_put (cs := #[.int .i64 0, .int .i64 0]) ?_ 0 _ rfl; (with_reducible repeat (first | refine blk_drewN ?_ _ | refine blk_drew ?_ | refine blk_alloc ?_ _)); exact BK202.out⟩, ⟨pxb HB⟩⟩
             ·rw [if_neg c34] at H
              exact absurd H (by simp)
            ·rw [if_neg c33] at H
             exact absurd H (by simp)
          case rest =>
           clear HC23
           try clear c1
           try clear p1
           try clear q1
           try clear hx1
           try clear c2
           try clear p2
           try clear hcv2
           try clear c3
           try clear c4
           try clear p6
           try clear c7
           try clear c7b0
           try clear c8
           try clear c8b0
           try clear c9
           try clear c9b0
           try clear c10
           try clear c11
           try clear c11b0
           try clear c11b1
           try clear c12
           try clear c12b0
           try clear c12b1
           try clear c16
           try clear c16b0
           try clear c17
           try clear c17b0
           try clear c18
           try clear c18b0
           try clear p19
           try clear q19
           try clear hx19
           try clear hf19
           try clear hcv24
           try clear c28
           try clear c28b0
           try clear c29
           try clear c29b0
           try clear c30
           try clear c30b0
           try clear c30b1
           try clear c33
           try clear c33b0
           try clear c33b1
           try clear c34
           try clear c34b0
           try clear c34b1
           try clear hcz27_0
           try clear hcz27_1
           try clear hcz31_0
           try clear hcz31_1
           try clear hcz35_0
           try clear hcz35_1
           try clear hfz27_0
           try clear hfz27_1
           try clear hfz31_0
           try clear hfz31_1
           try clear hfz35_0
           try clear hfz35_1
           try clear hx19_0
           try clear p19
           try clear p2
           try clear q19
           obtain ⟨kq, HA, HJ22, BK202, HB⟩ := hcut
           cases kq with
           | zero => exact absurd HA.out (by simp [caulkerlaw06_LexLimits.j2])
           | succ kj22 =>
            have H := HA.out
            clear HA
            simp only [caulkerlaw06_LexLimits.j2] at H
            by_cases c37 : 0 ≤ a1
            ·rw [if_pos c37] at H
             have c37b0 := eq_true c37
             have c37b1 : decide (0 ≤ a1) = true := decide_eq_true c37
             clear c37
             by_cases c38 : (a1 : Int).toNat ≤ 281474976710656
             ·rw [if_pos c38] at H
              have c38b0 := eq_true c38
              have c38b1 : decide ((a1 : Int).toNat ≤ 281474976710656) = true := decide_eq_true c38
              clear c38
              obtain ⟨y203, hy203⟩ : ∃ y_ : List Int, y_ = (List.replicate (a1 : Int).toNat 0) := ⟨_, rfl⟩
              replace H : (caulkerlaw06_LexLimits.l1 kj22 a1 y203 (List.replicate (a1 : Int).toNat 0) a1 0) = some r := by first | (rw [hy203]; with_reducible exact H) | (have H2_ := (Option.bind_some _ _).symm.trans H; rw [hy203]; with_reducible exact H2_) | (have H2_ := (Option.bind_some _ _).symm.trans H; with_reducible exact H2_) | with_reducible exact H | (rw [hy203]; exact H) | exact H
              have Ny203 := Aside0.mk hy203
              clear hy203
              obtain ⟨y206, hy206⟩ : ∃ y_ : List Int, y_ = (List.replicate (a1 : Int).toNat 0) := ⟨_, rfl⟩
              replace H : (caulkerlaw06_LexLimits.l1 kj22 a1 y203 y206 a1 0) = some r := by first | (rw [hy206]; with_reducible exact H) | (have H2_ := (Option.bind_some _ _).symm.trans H; rw [hy206]; with_reducible exact H2_) | (have H2_ := (Option.bind_some _ _).symm.trans H; with_reducible exact H2_) | with_reducible exact H | (rw [hy206]; exact H) | exact H
              have Ny206 := Aside0.mk hy206
              clear hy206
              have H' := Aside0.mk H
              clear H
              try go_wp2
              have n0_ := Aside0.mk (blk_drew BK202.out)
              have n1_ := Aside0.mk (below_drew1 HB.out)
              clear BK202
              clear HB
              have BK202 := n0_
              have HB := n1_
              clear n0_ n1_
              refine start_ (n := 6) (S := fun w' => True) (ds := []) #[false, false, false, false, false, false] (by kernel_rfl) rfl rfl trivial (fun hHeld => ?_)
              generalize wc.drew = w39 at BK202 HB hHeld ⊢
              refine pure_ (i := 0) (N := some 71) (v := ?_) (a' := ?_) #[true, false, false, false, false, false] rfl rfl (by kernel_rfl) (fun _ _ _ h => h) (Or.inl ⟨by rfl, ?_⟩) ?_ ?_
              rotate_left
              ·intro w'
               go_simp
               with_reducible rfl
              rotate_left
              ·simp only [Act.put, List.setIfInBounds_toArray, List.set_cons_zero, List.set_cons_succ, i64_w, i32_w]
               rfl
              refine pure_ (i := 2) (N := some 73) (v := ?_) (a' := ?_) #[true, false, true, false, false, false] rfl rfl (by kernel_rfl) (fun _ _ _ h => h) (Or.inl ⟨by rfl, ?_⟩) ?_ ?_
              rotate_left
              ·intro w'
               go_simp
               with_reducible rfl
              rotate_left
              ·simp only [Act.put, List.setIfInBounds_toArray, List.set_cons_zero, List.set_cons_succ, i64_w, i32_w]
               rfl
              refine join_ (σ := Value × Value) 1 #[true, true, true, true, true, false] (fun s_ => [(72, s_.1), (74, s_.2), (9, s_.1)]) (fun s_ w' => (Kd.R (Kd.int .u8) 5 w' w.heap.size (fun k_ => some k_ ≠ (s_.2 : Value).ownBlock) s_.1 y203) ∧ (Kd.R (Kd.int .u8) 5 w' w.heap.size (fun k_ => some k_ ≠ (s_.1 : Value).ownBlock) s_.2 y206) ∧ (w'.heap[gb202]? = some (.cells #[.int .i64 t200, .int .i64 t201] 26 (0, 0))) ∧ (Below w.heap.size w w')) ?_ ?_
              rotate_left
              ·intro hCont
               refine two_ (i := 1) (j := 3) (Ni := some 72) (Nj := some 74) #[true, true, true, false, false, false] #[true, false, true, true, false, false] rfl rfl rfl rfl (by kernel_rfl) (by decide) (by decide) (fun K hK => ?_) (fun K hK => ?_)
               ·skip
                refine Kd.R_make_step (Kd.int .u8) _ 5 (by rfl) (N := 72) rfl 38 _ _ rfl a1 rfl rfl Try.underlying38 (.int .u8 0) 1 info5 rfl (by decide) (by omega) 0 (ok := fun _ => True) (okp := fun _ => True) rfl (fun _ hk => hk) trivial (of_decide_eq_true (by first | (with_reducible assumption) | assumption)) (Nat.le_trans (Nat.mul_le_mul_right _ (of_decide_eq_true (by first | (with_reducible assumption) | assumption) : a1.toNat ≤ 281474976710656)) (by omega)) (Below.refl _ _) (Nat.le_refl _) ?_
                intro v204 w40 ho41 hb hg_ hnew_
                clear hg_ hnew_
                (first | rw [← Ny203.out] at ho41 | (simp only [Int.reduceToNat] at ho41; rw [← Ny203.out] at ho41))
                have n0_ := Aside0.mk (Kd.R_lower ho41 (below_size (pxb HB)))
                have n1_ := pxk BK202 hb
                have n2_ := pxs HB hb
                clear BK202
                clear HB
                have HO205 := n0_
                have BK202 := n1_
                have HB := n2_
                clear n0_ n1_ n2_
                clear hb ho41
                refine hK.out _ _ trivial (fun hHeld => ?_)
                clear hK K
                refine nS 72 ?_
                refine pure_ (i := 4) (N := some 9) (v := ?_) (a' := ?_) #[true, true, true, false, true, false] rfl rfl (by kernel_rfl) (fun _ _ _ h => h) (Or.inl ⟨by rfl, ?_⟩) ?_ ?_
                rotate_left
                ·intro w'
                 go_simp
                 with_reducible rfl
                rotate_left
                ·simp only [Act.put, List.setIfInBounds_toArray, List.set_cons_zero, List.set_cons_succ, i64_w, i32_w]
                 rfl
                refine one_ (i := 3) (N := some 74) #[true, true, true, true, true, false] rfl rfl (by kernel_rfl) (by decide) (fun K hK => ?_)
                refine Kd.R_make_step (Kd.int .u8) _ 5 (by rfl) (N := 74) rfl 38 _ _ rfl a1 rfl rfl Try.underlying38 (.int .u8 0) 1 info5 rfl (by decide) (by omega) 0 (ok := fun _ => True) (okp := fun _ => True) rfl (fun _ hk => hk) trivial (of_decide_eq_true (by first | (with_reducible assumption) | assumption)) (Nat.le_trans (Nat.mul_le_mul_right _ (of_decide_eq_true (by first | (with_reducible assumption) | assumption) : a1.toNat ≤ 281474976710656)) (by omega)) (Below.refl _ _) (Nat.le_refl _) ?_
                intro v207 w42 ho43 hb hg_ hnew_
                clear hg_ hnew_
                (first | rw [← Ny206.out] at ho43 | (simp only [Int.reduceToNat] at ho43; rw [← Ny206.out] at ho43))
                have n0_ := Aside0.mk (Kd.R_elder' (pxr HO205) (Kd.R_base ho43) hb)
                have n1_ := Aside0.mk (Kd.R_lower (Kd.R_new' ho43 (Kd.R_lt (pxr HO205))) (below_size (pxb HB)))
                have n2_ := pxk BK202 hb
                have n3_ := pxs HB hb
                clear HO205
                clear BK202
                clear HB
                have HO205 := n0_
                have HO208 := n1_
                have BK202 := n2_
                have HB := n3_
                clear n0_ n1_ n2_ n3_
                clear hb ho43
                refine hK.out _ _ trivial (fun hHeld => ?_)
                clear hK K
                refine nS 74 ?_
                exact norm_ (by simp only [putAll, Act.put, List.setIfInBounds_toArray, List.set_cons_zero, List.set_cons_succ]) (hCont (v204, v207) _ ⟨(by (with_reducible repeat (first | apply Kd.R_alloc | apply Kd.R_drewN | apply Kd.R_drew)); exact Kd.R_mono HO205.out (fun _ hk => hk.2)), (by (with_reducible repeat (first | apply Kd.R_alloc | apply Kd.R_drewN | apply Kd.R_drew)); exact Kd.R_mono HO208.out (fun _ hk => hk.2)), (pxq BK202), (pxb HB)⟩)
               ·skip
                refine Kd.R_make_step (Kd.int .u8) _ 5 (by rfl) (N := 74) rfl 38 _ _ rfl a1 rfl rfl Try.underlying38 (.int .u8 0) 1 info5 rfl (by decide) (by omega) 0 (ok := fun _ => True) (okp := fun _ => True) rfl (fun _ hk => hk) trivial (of_decide_eq_true (by first | (with_reducible assumption) | assumption)) (Nat.le_trans (Nat.mul_le_mul_right _ (of_decide_eq_true (by first | (with_reducible assumption) | assumption) : a1.toNat ≤ 281474976710656)) (by omega)) (Below.refl _ _) (Nat.le_refl _) ?_
                intro v207 w40 ho41 hb hg_ hnew_
                clear hg_ hnew_
                (first | rw [← Ny206.out] at ho41 | (simp only [Int.reduceToNat] at ho41; rw [← Ny206.out] at ho41))
                have n0_ := Aside0.mk (Kd.R_lower ho41 (below_size (pxb HB)))
                have n1_ := pxk BK202 hb
                have n2_ := pxs HB hb
                clear BK202
                clear HB
                have HO208 := n0_
                have BK202 := n1_
                have HB := n2_
                clear n0_ n1_ n2_
                clear hb ho41
                refine hK.out _ _ trivial (fun hHeld => ?_)
                clear hK K
                refine nS 74 ?_
                refine one_ (i := 1) (N := some 72) #[true, true, true, true, false, false] rfl rfl (by kernel_rfl) (by decide) (fun K hK => ?_)
                refine Kd.R_make_step (Kd.int .u8) _ 5 (by rfl) (N := 72) rfl 38 _ _ rfl a1 rfl rfl Try.underlying38 (.int .u8 0) 1 info5 rfl (by decide) (by omega) 0 (ok := fun _ => True) (okp := fun _ => True) rfl (fun _ hk => hk) trivial (of_decide_eq_true (by first | (with_reducible assumption) | assumption)) (Nat.le_trans (Nat.mul_le_mul_right _ (of_decide_eq_true (by first | (with_reducible assumption) | assumption) : a1.toNat ≤ 281474976710656)) (by omega)) (Below.refl _ _) (Nat.le_refl _) ?_
                intro v204 w42 ho43 hb hg_ hnew_
                clear hg_ hnew_
                (first | rw [← Ny203.out] at ho43 | (simp only [Int.reduceToNat] at ho43; rw [← Ny203.out] at ho43))
                have n0_ := Aside0.mk (Kd.R_elder' (pxr HO208) (Kd.R_base ho43) hb)
                have n1_ := Aside0.mk (Kd.R_lower (Kd.R_new' ho43 (Kd.R_lt (pxr HO208))) (below_size (pxb HB)))
                have n2_ := pxk BK202 hb
                have n3_ := pxs HB hb
                clear HO208
                clear BK202
                clear HB
                have HO208 := n0_
                have HO205 := n1_
                have BK202 := n2_
                have HB := n3_
                clear n0_ n1_ n2_ n3_
                clear hb ho43
                refine hK.out _ _ trivial (fun hHeld => ?_)
                clear hK K
                refine nS 72 ?_
                refine pure_ (i := 4) (N := some 9) (v := ?_) (a' := ?_) #[true, true, true, true, true, false] rfl rfl (by kernel_rfl) (fun _ _ _ h => h) (Or.inl ⟨by rfl, ?_⟩) ?_ ?_
                rotate_left
                ·intro w'
                 go_simp
                 with_reducible rfl
                rotate_left
                ·simp only [Act.put, List.setIfInBounds_toArray, List.set_cons_zero, List.set_cons_succ, i64_w, i32_w]
                 rfl
                exact norm_ (by simp only [putAll, Act.put, List.setIfInBounds_toArray, List.set_cons_zero, List.set_cons_succ]) (hCont (v204, v207) _ ⟨(by (with_reducible repeat (first | apply Kd.R_alloc | apply Kd.R_drewN | apply Kd.R_drew)); exact Kd.R_mono HO205.out (fun _ hk => hk.2)), (by (with_reducible repeat (first | apply Kd.R_alloc | apply Kd.R_drewN | apply Kd.R_drew)); exact Kd.R_mono HO208.out (fun _ hk => hk.2)), (pxq BK202), (pxb HB)⟩)
              rintro ⟨v204, v207⟩ w44 ⟨h0_, h1_, h2_, h3_⟩
              have n0_ : Aside0 (Kd.R (Kd.int .u8) 5 w44 w.heap.size (fun k_ => some k_ ≠ (v207 : Value).ownBlock) v204 y203) := ⟨h0_⟩
              have n1_ : Aside0 (Kd.R (Kd.int .u8) 5 w44 w.heap.size (fun k_ => some k_ ≠ (v204 : Value).ownBlock) v207 y206) := ⟨h1_⟩
              have n2_ : Aside0 (w44.heap[gb202]? = some (.cells #[.int .i64 t200, .int .i64 t201] 26 (0, 0))) := ⟨h2_⟩
              have n3_ : Aside0 (Below w.heap.size w w44) := ⟨h3_⟩
              clear BK202
              clear HB
              clear h0_ h1_ h2_ h3_
              have HO205 := n0_
              have HO208 := n1_
              have BK202 := n2_
              have HB := n3_
              clear n0_ n1_ n2_ n3_
              have hHeld := trivial
              refine norm_ (a' := ?_) ?_ ?_
              rotate_left
              ·simp only [putAll, Act.put, List.setIfInBounds_toArray, List.set_cons_zero, List.set_cons_succ]
               rfl
              refine pure_ (i := 5) (N := some 10) (v := ?_) (a' := ?_) #[true, true, true, true, true, true] rfl rfl (by kernel_rfl) (fun _ _ _ h => h) (Or.inl ⟨by rfl, ?_⟩) ?_ ?_
              rotate_left
              ·intro w'
               go_simp
               with_reducible rfl
              rotate_left
              ·simp only [Act.put, List.setIfInBounds_toArray, List.set_cons_zero, List.set_cons_succ, i64_w, i32_w]
               rfl
              refine done_ (by kernel_rfl) ?_
              try go_wp2
              go_loopg [76] kj22 (fun kq v76 w' => ∃ (x9_4 : List Int) (x10_4 : List Int) (x76_4 : Int), v76 = .int .i64 x76_4 ∧ Aside0 (caulkerlaw06_LexLimits.l1 kq a1 x9_4 x10_4 a1 x76_4 = some r) ∧ Aside0 (kq ≤ kj22) ∧ Aside0 (Kd.R (Kd.int .u8) 5 w' w.heap.size (fun k_ => some k_ ≠ (v207 : Value).ownBlock) v204 x9_4) ∧ Aside0 (Kd.R (Kd.int .u8) 5 w' w.heap.size (fun k_ => some k_ ≠ (v204 : Value).ownBlock) v207 x10_4) ∧ Aside0 (w'.heap[gb202]? = some (.cells #[.int .i64 t200, .int .i64 t201] 26 (0, 0))) ∧ Aside0 (Below w.heap.size w w'))
              case atStart => exact ⟨(y203), (y206), (0), (by first | rfl | (simp; done) | (simp [*]; done)), H', ⟨Nat.le_refl _⟩, ⟨by (try simp only [hl5_2]); (with_reducible repeat (first | apply Kd.R_alloc | apply Kd.R_drewN | apply Kd.R_drew)); exact HO205.out⟩, ⟨by (try simp only [hl5_2]); (with_reducible repeat (first | apply Kd.R_alloc | apply Kd.R_drewN | apply Kd.R_drew)); exact HO208.out⟩, ⟨by (try simp only [hl5_2]); (with_reducible repeat (first | refine blk_drewN ?_ _ | refine blk_drew ?_ | refine blk_alloc ?_ _)); exact BK202.out⟩, ⟨pxb HB⟩⟩
              case round =>
               clear H'
               try clear c1
               try clear p1
               try clear q1
               try clear hx1
               try clear c2
               try clear p2
               try clear hcv2
               try clear c3
               try clear c4
               try clear p6
               try clear c7
               try clear c7b0
               try clear c8
               try clear c8b0
               try clear c9
               try clear c9b0
               try clear c10
               try clear c11
               try clear c11b0
               try clear c11b1
               try clear c12
               try clear c12b0
               try clear c12b1
               try clear c16
               try clear c16b0
               try clear c17
               try clear c17b0
               try clear c18
               try clear c18b0
               try clear p19
               try clear q19
               try clear hx19
               try clear hf19
               try clear hcv24
               try clear c28
               try clear c28b0
               try clear c29
               try clear c29b0
               try clear c30
               try clear c30b0
               try clear c30b1
               try clear c33
               try clear c33b0
               try clear c33b1
               try clear c34
               try clear c34b0
               try clear c34b1
               try clear c37
               try clear c37b0
               try clear c37b1
               try clear c38
               try clear c38b0
               try clear c38b1
               try clear hcz27_0
               try clear hcz27_1
               try clear hcz31_0
               try clear hcz31_1
               try clear hcz35_0
               try clear hcz35_1
               try clear hfz27_0
               try clear hfz27_1
               try clear hfz31_0
               try clear hfz31_1
               try clear hfz35_0
               try clear hfz35_1
               try clear hx19_0
               try clear p1
               try clear p19
               try clear p2
               try clear p6
               try clear q1
               try clear q19
               obtain ⟨x9_4, x10_4, x76_4, rfl, HA, HK4, HO_9, HO_10, BK202, HB⟩ := hrel
               cases gk with
               | zero => exact absurd HA.out (by simp [caulkerlaw06_LexLimits.l1])
               | succ k4 =>
                have H := HA.out
                clear HA
                simp only [caulkerlaw06_LexLimits.l1] at H
                by_cases c45 : x76_4 < a1
                ·rw [if_pos c45] at H
                 have c45b0 : decide (x76_4 < a1) = true := decide_eq_true c45
                 clear c45
                 by_cases c46 : 0 ≤ x76_4
                 ·rw [if_pos c46] at H
                  have c46b0 : decide (0 ≤ x76_4) = true := decide_eq_true c46
                  clear c46
                  by_cases c47 : x76_4 < (x9_4.length : Int)
                  ·rw [if_pos c47] at H
                   have c47b0 : decide (x76_4 < (x9_4.length : Int)) = true := decide_eq_true c47
                   clear c47
                   obtain ⟨y209, hy209⟩ : ∃ y_ : List Int, y_ = (x9_4.set (x76_4 : Int).toNat 119) := ⟨_, rfl⟩
                   replace H : (if x76_4 < (x10_4.length : Int) then (caulkerlaw06_LexLimits.l1 k4 a1 y209 (x10_4.set (x76_4 : Int).toNat 49) a1 (wrap64 (x76_4 + 1))) else (none)) = some r := by first | (rw [hy209]; with_reducible exact H) | (have H2_ := (Option.bind_some _ _).symm.trans H; rw [hy209]; with_reducible exact H2_) | (have H2_ := (Option.bind_some _ _).symm.trans H; with_reducible exact H2_) | with_reducible exact H | (rw [hy209]; exact H) | exact H
                   have Ny209 := Aside0.mk hy209
                   clear hy209
                   by_cases c49 : x76_4 < (x10_4.length : Int)
                   ·rw [if_pos c49] at H
                    have c49b0 : decide (x76_4 < (x10_4.length : Int)) = true := decide_eq_true c49
                    clear c49
                    obtain ⟨y210, hy210⟩ : ∃ y_ : List Int, y_ = (x10_4.set (x76_4 : Int).toNat 49) := ⟨_, rfl⟩
                    replace H : (caulkerlaw06_LexLimits.l1 k4 a1 y209 y210 a1 (wrap64 (x76_4 + 1))) = some r := by first | (rw [hy210]; with_reducible exact H) | (have H2_ := (Option.bind_some _ _).symm.trans H; rw [hy210]; with_reducible exact H2_) | (have H2_ := (Option.bind_some _ _).symm.trans H; with_reducible exact H2_) | with_reducible exact H | (rw [hy210]; exact H) | exact H
                    have Ny210 := Aside0.mk hy210
                    clear hy210
                    have H' := Aside0.mk H
                    clear H
                    have p48 : 0 ≤ (x76_4 : Int) := of_decide_eq_true (by first | (with_reducible assumption) | assumption)
                    have q48 : (x76_4 : Int) < ((x9_4.length : Int) : Int) := of_decide_eq_true (by first | (with_reducible assumption) | assumption)
                    obtain ⟨go48, co48, eo48, gb48, gl48, cl48, HG48⟩ := Kd.R_form HO_9.out (by omega)
                    (first | cases eo48 | (injection eo48 with ea_ en_ ec_; (first | subst ea_ | (injection ea_ with ea_; subst ea_)); subst ec_; clear en_))
                    have GB48 := Aside0.mk gb48
                    have GG48 := Aside0.mk HG48
                    clear gb48 gl48 HG48
                    obtain ⟨hx48_0, hf48_0⟩ := Kd.R_celln 0 HO_9.out (x76_4 : Int) p48 q48
                    replace p48 := eq_true p48
                    replace q48 := eq_true q48
                    have HP51 := Kd.R_putg HO_9.out (x76_4 : Int) 119
                    go_wp2_with (first | ((with_reducible refine gate_store (t := 5) (p := 83) rfl ?_); refine store_event (t := 5) (p := 83) (v := ?vo_w52) (w1 := (wr.setCell ⟨go48, (x76_4 : Int).toNat, none⟩ (.int .u8 119))) ?hg ?ho ?hn ?hr ?_; (case ho => rfl); (case hg => rfl); (case hn => rfl); (case hr => first | (go_simp; done) | (go_simp; rfl)); intro w52 hw; have hg : wr.grownBy w52 (some go48) := (by rw [hw]; exact HP51.2); have hp_ : Kd.R (Kd.int .u8) 5 w52 w.heap.size (fun k_ => some k_ ≠ (v207 : Value).ownBlock) (.slice (some ⟨go48, 0, none⟩) x9_4.length co48) y209 := (by rw [hw, Ny209.out]; exact HP51.1); clear HP51; have n0_ := Aside0.mk (hp_); have n1_ := Aside0.mk (Kd.R_after (v := (.slice (some ⟨go48, 0, none⟩) x9_4.length co48)) (v1 := (.slice (some ⟨go48, 0, none⟩) x9_4.length co48)) (ok := (fun _ => True)) (by (with_reducible repeat (first | apply Kd.R_alloc | apply Kd.R_drewN | apply Kd.R_drew)); exact Kd.R_mono HO_10.out (fun _ hk => ⟨trivial, hk⟩)) hg (.inl rfl)); have n2_ := Aside0.mk (blk_grown (g := gb202) (o := .cells #[.int .i64 t200, .int .i64 t201] 26 (0, 0)) (pxq BK202) hg (Kd.R_ne HO_9.out BK202.out (by decide))); have n3_ := Aside0.mk ((by rw [hw]; exact below_set (HB.out) GB48.out : Below w.heap.size w w52)); clear HO_9; clear HO_10; clear BK202; clear HB; have HO_9 := n0_; have HO_10 := n1_; have BK202 := n2_; have HB := n3_; clear n0_ n1_ n2_ n3_; clear hg hw hp_; have p50 : 0 ≤ (x76_4 : Int) := of_decide_eq_true (by first | (with_reducible assumption) | assumption); have q50 : (x76_4 : Int) < ((x10_4.length : Int) : Int) := of_decide_eq_true (by first | (with_reducible assumption) | assumption); obtain ⟨go50, co50, eo50, gb50, gl50, cl50, HG50⟩ := Kd.R_form HO_10.out (by omega); (first | cases eo50 | (injection eo50 with ea_ en_ ec_; (first | subst ea_ | (injection ea_ with ea_; subst ea_)); subst ec_; clear en_)); have GB50 := Aside0.mk gb50; have GG50 := Aside0.mk HG50; clear gb50 gl50 HG50; obtain ⟨hx50_0, hf50_0⟩ := Kd.R_celln 0 HO_10.out (x76_4 : Int) p50 q50; replace p50 := eq_true p50; replace q50 := eq_true q50; have n_ := Aside0.mk (Kd.R_mono (ok' := (fun k_ => some k_ ≠ (.slice (some ⟨go48, 0, none⟩) x9_4.length co48 : Value).ownBlock)) HO_10.out (fun k_ hk => hk.2)); clear HO_10; have HO_10 := n_; clear n_; obtain ⟨hy53_, hz53_⟩ := Kd.R_celln 0 HO_10.out (x76_4 : Int) (of_decide_eq_true (by first | (with_reducible assumption) | assumption)) (of_decide_eq_true (by first | (with_reducible assumption) | assumption)); have HP53 := Kd.R_putg HO_10.out (x76_4 : Int) 49) | ((with_reducible refine gate_store (t := 5) (p := 84) rfl ?_); refine store_event (t := 5) (p := 84) (v := ?vo_w54) (w1 := (w52.setCell ⟨go50, (x76_4 : Int).toNat, none⟩ (.int .u8 49))) ?hg ?ho ?hn ?hr ?_; (case ho => rfl); (case hg => rfl); (case hn => rfl); (case hr => first | (go_simp; done) | (go_simp; rfl)); intro w54 hw; have hg : w52.grownBy w54 (some go50) := (by rw [hw]; exact HP53.2); have hp_ : Kd.R (Kd.int .u8) 5 w54 w.heap.size (fun k_ => some k_ ≠ (.slice (some ⟨go48, 0, none⟩) x9_4.length co48 : Value).ownBlock) (.slice (some ⟨go50, 0, none⟩) x10_4.length co50) y210 := (by rw [hw, Ny210.out]; exact HP53.1); clear HP53; have n0_ := Aside0.mk (Kd.R_after (v := (.slice (some ⟨go50, 0, none⟩) x10_4.length co50)) (v1 := (.slice (some ⟨go50, 0, none⟩) x10_4.length co50)) (ok := (fun _ => True)) (by (with_reducible repeat (first | apply Kd.R_alloc | apply Kd.R_drewN | apply Kd.R_drew)); exact Kd.R_mono HO_9.out (fun _ hk => ⟨trivial, hk⟩)) hg (.inl rfl)); have n1_ := Aside0.mk (hp_); have n2_ := Aside0.mk (blk_grown (g := gb202) (o := .cells #[.int .i64 t200, .int .i64 t201] 26 (0, 0)) (pxq BK202) hg (Kd.R_ne HO_10.out BK202.out (by decide))); have n3_ := Aside0.mk ((by rw [hw]; exact below_set (HB.out) GB50.out : Below w.heap.size w w54)); clear HO_9; clear HO_10; clear BK202; clear HB; have HO_9 := n0_; have HO_10 := n1_; have BK202 := n2_; have HB := n3_; clear n0_ n1_ n2_ n3_; clear hg hw hp_))
                    go_roundg k4
                    case measure => have := HJ4.out; have := HK2.out; have := HJ22.out; have := HK4.out; omega
                    case rel => exact ⟨(y209), (y210), (wrap64 (x76_4 + 1)), (by first | rfl | (simp; done) | (simp [*]; done)), H', ⟨by have := HJ4.out; have := HK2.out; have := HJ22.out; have := HK4.out; omega⟩, ⟨by (try simp only [hl5_2]); (with_reducible repeat (first | apply Kd.R_alloc | apply Kd.R_drewN | apply Kd.R_drew)); exact Kd.R_mono HO_9.out (fun _ hk => hk.2)⟩, ⟨by (try simp only [hl5_2]); (with_reducible repeat (first | apply Kd.R_alloc | apply Kd.R_drewN | apply Kd.R_drew)); exact HO_10.out⟩, ⟨by (try simp only [hl5_2]); (with_reducible repeat (first | refine blk_drewN ?_ _ | refine blk_drew ?_ | refine blk_alloc ?_ _)); exact BK202.out⟩, ⟨pxb HB⟩⟩
                   ·rw [if_neg c49] at H
                    exact absurd H (by simp)
                  ·rw [if_neg c47] at H
                   exact absurd H (by simp)
                 ·rw [if_neg c46] at H
                  exact absurd H (by simp)
                ·rw [if_neg c45] at H
                 have c45b0 : decide (x76_4 < a1) = false := decide_eq_false c45
                 clear c45
                 replace H := Option.bind_eq_some_iff.mp H
                 obtain ⟨⟨t211, t214, t215⟩, A550, H⟩ := H
                 replace H : ((lex_Lex.f (strOfNums x10_4)).bind fun bt217 => (if 1 + (strOfNums x9_4).size ≤ 9223372036854775807 then (if ((⟨#[34]⟩ : ByteArray) ++ (strOfNums x9_4)).size + 1 ≤ 9223372036854775807 then ((lex_Lex.f (((⟨#[34]⟩ : ByteArray) ++ (strOfNums x9_4)) ++ (⟨#[34]⟩ : ByteArray))).bind fun bt223 => (if ((t214 == 2) == (decide (a1 > 64))) = true then (if ((bt217.2.1 == 2) == (decide (a1 > 20))) = true then (some ((bt223.2.1 == 2) == (decide (a1 > 254)))) else (none)) else (none))) else (none)) else (none))) = some r := H
                 have A55 := Aside0.mk A550
                 clear A550
                 replace H := Option.bind_eq_some_iff.mp H
                 obtain ⟨⟨t217, t220, t221⟩, A560, H⟩ := H
                 replace H : (if 1 + (strOfNums x9_4).size ≤ 9223372036854775807 then (if ((⟨#[34]⟩ : ByteArray) ++ (strOfNums x9_4)).size + 1 ≤ 9223372036854775807 then ((lex_Lex.f (((⟨#[34]⟩ : ByteArray) ++ (strOfNums x9_4)) ++ (⟨#[34]⟩ : ByteArray))).bind fun bt223 => (if ((t214 == 2) == (decide (a1 > 64))) = true then (if ((t220 == 2) == (decide (a1 > 20))) = true then (some ((bt223.2.1 == 2) == (decide (a1 > 254)))) else (none)) else (none))) else (none)) else (none)) = some r := H
                 have A56 := Aside0.mk A560
                 clear A560
                 by_cases c57 : 1 + (strOfNums x9_4).size ≤ 9223372036854775807
                 ·rw [if_pos c57] at H
                  have c57b0 := eq_true c57
                  have c57b1 : decide (1 + (strOfNums x9_4).size ≤ 9223372036854775807) = true := decide_eq_true c57
                  try have c57b2 : (9223372036854775807 < 1 + (strOfNums x9_4).size) = False := eq_false (Nat.not_lt.2 c57)
                  by_cases c58 : ((⟨#[34]⟩ : ByteArray) ++ (strOfNums x9_4)).size + 1 ≤ 9223372036854775807
                  ·rw [if_pos c58] at H
                   have c58b0 := eq_true c58
                   have c58b1 : decide (((⟨#[34]⟩ : ByteArray) ++ (strOfNums x9_4)).size + 1 ≤ 9223372036854775807) = true := decide_eq_true c58
                   try have c58b2 : (9223372036854775807 < ((⟨#[34]⟩ : ByteArray) ++ (strOfNums x9_4)).size + 1) = False := eq_false (Nat.not_lt.2 c58)
                   try have c58b6 : (1 + (strOfNums x9_4).size + 1 ≤ 9223372036854775807) = True := eq_true (by have h_ := c58; rw [ByteArray.size_append] at h_; exact h_)
                   try have c58b7 : (9223372036854775807 < 1 + (strOfNums x9_4).size + 1) = False := eq_false (Nat.not_lt.2 (by have h_ := c58; rw [ByteArray.size_append] at h_; exact h_))
                   replace H := Option.bind_eq_some_iff.mp H
                   obtain ⟨⟨t223, t226, t227⟩, A590, H⟩ := H
                   replace H : (if ((t214 == 2) == (decide (a1 > 64))) = true then (if ((t220 == 2) == (decide (a1 > 20))) = true then (some ((t226 == 2) == (decide (a1 > 254)))) else (none)) else (none)) = some r := H
                   have A59 := Aside0.mk A590
                   clear A590
                   by_cases c60 : ((t214 == 2) == (decide (a1 > 64))) = true
                   ·rw [if_pos c60] at H
                    have c60b0 : ((t214 == 2) == (decide (a1 > 64))) = true := c60
                    (try (have c60b1 : decide ((t214 == 2) = (decide (a1 > 64))) = true := by simpa using c60))
                    (try (have c60b2 : ((t214 == 2) == (decide (a1 > 64))) = true := by simpa using c60))
                    clear c60
                    by_cases c61 : ((t220 == 2) == (decide (a1 > 20))) = true
                    ·rw [if_pos c61] at H
                     have c61b0 : ((t220 == 2) == (decide (a1 > 20))) = true := c61
                     (try (have c61b1 : decide ((t220 == 2) = (decide (a1 > 20))) = true := by simpa using c61))
                     (try (have c61b2 : ((t220 == 2) == (decide (a1 > 20))) = true := by simpa using c61))
                     clear c61
                     obtain rfl := Option.some.inj H
                     have hcv62 := own_string (P := Try.prog) Try.underlying38 Try.underlying5 Try.underlying9 (Kd.own_of_R HO_9.out)
                     go_wp2_with (first | ((with_reducible refine gate_callee (f := 9) rfl ?_); refine goesL_ (some 89) rfl rfl Try.func9 (by kernel_rfl) rfl #[.string (strOfNums x9_4)] rfl (by (try simp only [List.map_toArray, List.map_cons, List.map_nil]); first | done | rfl | (simp only [List.length_drop, List.length_take]; rfl)) ?_; (with_reducible refine (lex_Lex.calls (strOfNums x9_4) t211 t214 t215 _ A55.out ?gv).mono ?_); (case gv => first | exact LexW.GV.later HGV.out (pxb HB) | (repeat (first | exact HGV.out | apply LexW.GV.drewN))); rintro e w63 ⟨v212, rfl, ho0, hb⟩; refine ⟨_, rfl, ?_⟩; have n0_ := Aside0.mk (Kd.R_below (pxr HO_9) hb); have n1_ := Aside0.mk (Kd.R_below (pxr HO_10) hb); have n2_ := Aside0.mk (Kd.R_lower ho0 (below_size (pxb HB))); have n3_ := pxk BK202 hb; have n4_ := pxs HB hb; clear HO_9; clear HO_10; clear BK202; clear HB; have HO_9 := n0_; have HO_10 := n1_; have HO213 := n2_; have BK202 := n3_; have HB := n4_; clear n0_ n1_ n2_ n3_ n4_; (try clear hb); (try clear hb2); (try clear hk); (try clear hi); (try clear ho0)) | ((with_reducible refine gate_dst (N := 13) rfl ?_); refine box_event ?hg (N := 13) ?hd (cs := #[.int .i64 0, .int .i64 0]) (t := 26) ?hr ?_; (case hd => rfl); (case hg => rfl); (case hr => first | (go_simp; done) | (go_simp; rfl)); intro gb216 hg w64 hbox hb; have n0_ := Aside0.mk (Kd.R_below (pxr HO_9) hb); have n1_ := Aside0.mk (Kd.R_below (pxr HO_10) hb); have n2_ := Aside0.mk (Kd.R_below (pxr HO213) hb); have n3_ := pxk BK202 hb; have n4_ := pxs HB hb; have n5_ := Aside0.mk (hbox); have n6_ := Aside0.mk ((by rw [hg]; exact (below_size (pxb HB)) : w.heap.size ≤ gb216)); have n7_ := Aside0.mk ((by rw [hg]; exact (below_size (pxb HB)) : w.heap.size ≤ gb216)); have n8_ := Aside0.mk ((by rw [hg]; exact Nat.ne_of_lt (blk_lt (g := gb202) (o := .cells #[.int .i64 t200, .int .i64 t201] 26 (0, 0)) (pxq BK202)) : gb202 ≠ gb216)); have n9_ := Aside0.mk ((by rw [hg]; exact Nat.ne_of_gt (blk_lt (g := gb202) (o := .cells #[.int .i64 t200, .int .i64 t201] 26 (0, 0)) (pxq BK202)) : gb216 ≠ gb202)); clear HO_9; clear HO_10; clear HO213; clear BK202; clear HB; have HO_9 := n0_; have HO_10 := n1_; have HO213 := n2_; have BK202 := n3_; have HB := n4_; have BK216 := n5_; have GW216 := n6_; have GE216 := n7_; have NB202_216 := n8_; have NB216_202 := n9_; clear n0_ n1_ n2_ n3_ n4_ n5_ n6_ n7_ n8_ n9_; clear hb hbox hg; have hnb65 := NB216_202.out; have hnc65 := NB202_216.out; have hcz66_0 : w64.cell? ⟨gb216, 0, none⟩ = some (.int .i64 0) := (blk_cell BK216.out 0).trans rfl; have hcz66_1 : w64.cell? ⟨gb216, 1, none⟩ = some (.int .i64 0) := (blk_cell BK216.out 1).trans rfl; have hfz66_0 := blk_frozen BK216.out 0; have hfz66_1 := blk_frozen BK216.out 1; have hcv67 := own_string (P := Try.prog) Try.underlying38 Try.underlying5 Try.underlying9 (Kd.own_of_R (Kd.R_far (p := ⟨gb216, 1, none⟩) (Kd.R_far (p := ⟨gb216, 0, none⟩) (Kd.R_types HO_10.out BK216.out (by decide)) (fun _ hk => hk.2) (.int .i64 t214)) (fun _ hk => hk.2) (.int .i64 t215)))) | ((with_reducible refine gate_callee (f := 9) rfl ?_); refine goesL_ (some 95) rfl rfl Try.func9 (by kernel_rfl) rfl #[.string (strOfNums x10_4)] rfl (by (try simp only [List.map_toArray, List.map_cons, List.map_nil]); first | done | rfl | (simp only [List.length_drop, List.length_take]; rfl)) ?_; (with_reducible refine (lex_Lex.calls (strOfNums x10_4) t217 t220 t221 _ A56.out ?gv).mono ?_); (case gv => first | exact LexW.GV.later HGV.out (pxb HB) | (repeat (first | exact HGV.out | apply LexW.GV.drewN))); rintro e w68 ⟨v218, rfl, ho0, hb⟩; refine ⟨_, rfl, ?_⟩; have n0_ := Aside0.mk (Kd.R_below (by (with_reducible repeat (first | apply Kd.R_alloc | apply Kd.R_drewN | apply Kd.R_drew)); exact (Kd.R_mono (Kd.R_far (p := ⟨gb216, 1, none⟩) (Kd.R_far (p := ⟨gb216, 0, none⟩) (Kd.R_types HO_9.out BK216.out (by decide)) (fun _ hk => hk.2) (.int .i64 t214)) (fun _ hk => hk.2) (.int .i64 t215)) (fun _ h_ => h_.1))) hb); have n1_ := Aside0.mk (Kd.R_below (by (with_reducible repeat (first | apply Kd.R_alloc | apply Kd.R_drewN | apply Kd.R_drew)); exact (Kd.R_mono (Kd.R_far (p := ⟨gb216, 1, none⟩) (Kd.R_far (p := ⟨gb216, 0, none⟩) (Kd.R_types HO_10.out BK216.out (by decide)) (fun _ hk => hk.2) (.int .i64 t214)) (fun _ hk => hk.2) (.int .i64 t215)) (fun _ h_ => h_.1))) hb); have n2_ := Aside0.mk (Kd.R_elder' (by (with_reducible repeat (first | apply Kd.R_alloc | apply Kd.R_drewN | apply Kd.R_drew)); exact (Kd.R_mono (Kd.R_far (p := ⟨gb216, 1, none⟩) (Kd.R_far (p := ⟨gb216, 0, none⟩) (Kd.R_types HO213.out BK216.out (by decide)) (fun _ hk => hk.2) (.int .i64 t214)) (fun _ hk => hk.2) (.int .i64 t215)) (fun _ h_ => h_.1))) (Kd.R_base ho0) hb); have n3_ := Aside0.mk (Kd.R_lower (Kd.R_new' ho0 (Kd.R_lt (by (with_reducible repeat (first | apply Kd.R_alloc | apply Kd.R_drewN | apply Kd.R_drew)); exact (Kd.R_mono (Kd.R_far (p := ⟨gb216, 1, none⟩) (Kd.R_far (p := ⟨gb216, 0, none⟩) (Kd.R_types HO213.out BK216.out (by decide)) (fun _ hk => hk.2) (.int .i64 t214)) (fun _ hk => hk.2) (.int .i64 t215)) (fun _ h_ => h_.1))))) (below_size (pxb HB))); have n4_ := Aside0.mk (blk_below (g := gb202) (o := .cells #[.int .i64 t200, .int .i64 t201] 26 (0, 0)) (by (with_reducible repeat (first | refine blk_drewN ?_ _ | refine blk_drew ?_ | refine blk_alloc ?_ _)); refine blk_far ?_ NB202_216.out _; (with_reducible repeat (first | refine blk_drewN ?_ _ | refine blk_drew ?_ | refine blk_alloc ?_ _)); refine blk_far ?_ NB202_216.out _; (with_reducible repeat (first | refine blk_drewN ?_ _ | refine blk_drew ?_ | refine blk_alloc ?_ _)); exact BK202.out) hb); have n5_ := Aside0.mk (blk_below (g := gb216) (o := .cells #[.int .i64 t214, .int .i64 t215] 26 (0, 0)) (by (with_reducible repeat (first | refine blk_drewN ?_ _ | refine blk_drew ?_ | refine blk_alloc ?_ _)); refine blk_put (cs := #[.int .i64 t214, .int .i64 0]) ?_ 1 _ rfl; (with_reducible repeat (first | refine blk_drewN ?_ _ | refine blk_drew ?_ | refine blk_alloc ?_ _)); refine blk_put (cs := #[.int .i64 0, .int .i64 0]) ?_ 0 _ rfl; (with_reducible repeat (first | refine blk_drewN ?_ _ | refine blk_drew ?_ | refine blk_alloc ?_ _)); exact BK216.out) hb); have n6_ := pxs HB hb; clear HO_9; clear HO_10; clear HO213; clear BK202; clear BK216; clear HB; have HO_9 := n0_; have HO_10 := n1_; have HO213 := n2_; have HO219 := n3_; have BK202 := n4_; have BK216 := n5_; have HB := n6_; clear n0_ n1_ n2_ n3_ n4_ n5_ n6_; (try clear hb); (try clear hb2); (try clear hk); (try clear hi); (try clear ho0)) | ((with_reducible refine gate_dst (N := 15) rfl ?_); refine box_event ?hg (N := 15) ?hd (cs := #[.int .i64 0, .int .i64 0]) (t := 26) ?hr ?_; (case hd => rfl); (case hg => rfl); (case hr => first | (go_simp; done) | (go_simp; rfl)); intro gb222 hg w69 hbox hb; have n0_ := Aside0.mk (Kd.R_below (pxr HO_9) hb); have n1_ := Aside0.mk (Kd.R_below (pxr HO_10) hb); have n2_ := Aside0.mk (Kd.R_below (pxr HO213) hb); have n3_ := Aside0.mk (Kd.R_below (pxr HO219) hb); have n4_ := pxk BK202 hb; have n5_ := pxk BK216 hb; have n6_ := pxs HB hb; have n7_ := Aside0.mk (hbox); have n8_ := Aside0.mk ((by rw [hg]; exact (below_size (pxb HB)) : w.heap.size ≤ gb222)); have n9_ := Aside0.mk ((by rw [hg]; exact (below_size (pxb HB)) : w.heap.size ≤ gb222)); have n10_ := Aside0.mk ((by rw [hg]; exact Nat.ne_of_lt (blk_lt (g := gb202) (o := .cells #[.int .i64 t200, .int .i64 t201] 26 (0, 0)) (pxq BK202)) : gb202 ≠ gb222)); have n11_ := Aside0.mk ((by rw [hg]; exact Nat.ne_of_gt (blk_lt (g := gb202) (o := .cells #[.int .i64 t200, .int .i64 t201] 26 (0, 0)) (pxq BK202)) : gb222 ≠ gb202)); have n12_ := Aside0.mk ((by rw [hg]; exact Nat.ne_of_lt (blk_lt (g := gb216) (o := .cells #[.int .i64 t214, .int .i64 t215] 26 (0, 0)) (pxq BK216)) : gb216 ≠ gb222)); have n13_ := Aside0.mk ((by rw [hg]; exact Nat.ne_of_gt (blk_lt (g := gb216) (o := .cells #[.int .i64 t214, .int .i64 t215] 26 (0, 0)) (pxq BK216)) : gb222 ≠ gb216)); clear HO_9; clear HO_10; clear HO213; clear HO219; clear BK202; clear BK216; clear HB; have HO_9 := n0_; have HO_10 := n1_; have HO213 := n2_; have HO219 := n3_; have BK202 := n4_; have BK216 := n5_; have HB := n6_; have BK222 := n7_; have GW222 := n8_; have GE222 := n9_; have NB202_222 := n10_; have NB222_202 := n11_; have NB216_222 := n12_; have NB222_216 := n13_; clear n0_ n1_ n2_ n3_ n4_ n5_ n6_ n7_ n8_ n9_ n10_ n11_ n12_ n13_; clear hb hbox hg; have hnb70 := NB222_202.out; have hnc70 := NB202_222.out; have hnb71 := NB222_216.out; have hnc71 := NB216_222.out; have hcz72_0 : w69.cell? ⟨gb222, 0, none⟩ = some (.int .i64 0) := (blk_cell BK222.out 0).trans rfl; have hcz72_1 : w69.cell? ⟨gb222, 1, none⟩ = some (.int .i64 0) := (blk_cell BK222.out 1).trans rfl; have hfz72_0 := blk_frozen BK222.out 0; have hfz72_1 := blk_frozen BK222.out 1; have hcv73 := own_string (P := Try.prog) Try.underlying38 Try.underlying5 Try.underlying9 (Kd.own_of_R (Kd.R_far (p := ⟨gb222, 1, none⟩) (Kd.R_far (p := ⟨gb222, 0, none⟩) (Kd.R_types HO_9.out BK222.out (by decide)) (fun _ hk => hk.2) (.int .i64 t220)) (fun _ hk => hk.2) (.int .i64 t221)))) | ((with_reducible refine gate_callee (f := 9) rfl ?_); refine goesL_ (some 103) rfl rfl Try.func9 (by kernel_rfl) rfl #[.string (((⟨#[34]⟩ : ByteArray) ++ (strOfNums x9_4)) ++ (⟨#[34]⟩ : ByteArray))] rfl (by (try simp only [List.map_toArray, List.map_cons, List.map_nil]); first | done | rfl | (simp only [List.length_drop, List.length_take]; rfl)) ?_; (with_reducible refine (lex_Lex.calls (((⟨#[34]⟩ : ByteArray) ++ (strOfNums x9_4)) ++ (⟨#[34]⟩ : ByteArray)) t223 t226 t227 _ A59.out ?gv).mono ?_); (case gv => first | exact LexW.GV.later HGV.out (pxb HB) | (repeat (first | exact HGV.out | apply LexW.GV.drewN))); rintro e w74 ⟨v224, rfl, ho0, hb⟩; refine ⟨_, rfl, ?_⟩; have n0_ := Aside0.mk (Kd.R_below (by (with_reducible repeat (first | apply Kd.R_alloc | apply Kd.R_drewN | apply Kd.R_drew)); exact (Kd.R_mono (Kd.R_far (p := ⟨gb222, 1, none⟩) (Kd.R_far (p := ⟨gb222, 0, none⟩) (Kd.R_types HO_9.out BK222.out (by decide)) (fun _ hk => hk.2) (.int .i64 t220)) (fun _ hk => hk.2) (.int .i64 t221)) (fun _ h_ => h_.1))) hb); have n1_ := Aside0.mk (Kd.R_below (by (with_reducible repeat (first | apply Kd.R_alloc | apply Kd.R_drewN | apply Kd.R_drew)); exact (Kd.R_mono (Kd.R_far (p := ⟨gb222, 1, none⟩) (Kd.R_far (p := ⟨gb222, 0, none⟩) (Kd.R_types HO_10.out BK222.out (by decide)) (fun _ hk => hk.2) (.int .i64 t220)) (fun _ hk => hk.2) (.int .i64 t221)) (fun _ h_ => h_.1))) hb); have n2_ := Aside0.mk (Kd.R_elder' (by (with_reducible repeat (first | apply Kd.R_alloc | apply Kd.R_drewN | apply Kd.R_drew)); exact (Kd.R_mono (Kd.R_far (p := ⟨gb222, 1, none⟩) (Kd.R_far (p := ⟨gb222, 0, none⟩) (Kd.R_types HO213.out BK222.out (by decide)) (fun _ hk => hk.2) (.int .i64 t220)) (fun _ hk => hk.2) (.int .i64 t221)) (fun _ h_ => h_.1))) (Kd.R_base ho0) hb); have n3_ := Aside0.mk (Kd.R_elder' (by (with_reducible repeat (first | apply Kd.R_alloc | apply Kd.R_drewN | apply Kd.R_drew)); exact (Kd.R_mono (Kd.R_far (p := ⟨gb222, 1, none⟩) (Kd.R_far (p := ⟨gb222, 0, none⟩) (Kd.R_types HO219.out BK222.out (by decide)) (fun _ hk => hk.2) (.int .i64 t220)) (fun _ hk => hk.2) (.int .i64 t221)) (fun _ h_ => h_.1))) (Kd.R_base ho0) hb); have n4_ := Aside0.mk (Kd.R_lower (Kd.R_new' (Kd.R_new' ho0 (Kd.R_lt (by (with_reducible repeat (first | apply Kd.R_alloc | apply Kd.R_drewN | apply Kd.R_drew)); exact (Kd.R_mono (Kd.R_far (p := ⟨gb222, 1, none⟩) (Kd.R_far (p := ⟨gb222, 0, none⟩) (Kd.R_types HO213.out BK222.out (by decide)) (fun _ hk => hk.2) (.int .i64 t220)) (fun _ hk => hk.2) (.int .i64 t221)) (fun _ h_ => h_.1))))) (Kd.R_lt (by (with_reducible repeat (first | apply Kd.R_alloc | apply Kd.R_drewN | apply Kd.R_drew)); exact (Kd.R_mono (Kd.R_far (p := ⟨gb222, 1, none⟩) (Kd.R_far (p := ⟨gb222, 0, none⟩) (Kd.R_types HO219.out BK222.out (by decide)) (fun _ hk => hk.2) (.int .i64 t220)) (fun _ hk => hk.2) (.int .i64 t221)) (fun _ h_ => h_.1))))) (below_size (pxb HB))); have n5_ := Aside0.mk (blk_below (g := gb202) (o := .cells #[.int .i64 t200, .int .i64 t201] 26 (0, 0)) (by (with_reducible repeat (first | refine blk_drewN ?_ _ | refine blk_drew ?_ | refine blk_alloc ?_ _)); refine blk_far ?_ NB202_222.out _; (with_reducible repeat (first | refine blk_drewN ?_ _ | refine blk_drew ?_ | refine blk_alloc ?_ _)); refine blk_far ?_ NB202_222.out _; (with_reducible repeat (first | refine blk_drewN ?_ _ | refine blk_drew ?_ | refine blk_alloc ?_ _)); exact BK202.out) hb); have n6_ := Aside0.mk (blk_below (g := gb216) (o := .cells #[.int .i64 t214, .int .i64 t215] 26 (0, 0)) (by (with_reducible repeat (first | refine blk_drewN ?_ _ | refine blk_drew ?_ | refine blk_alloc ?_ _)); refine blk_far ?_ NB216_222.out _; (with_reducible repeat (first | refine blk_drewN ?_ _ | refine blk_drew ?_ | refine blk_alloc ?_ _)); refine blk_far ?_ NB216_222.out _; (with_reducible repeat (first | refine blk_drewN ?_ _ | refine blk_drew ?_ | refine blk_alloc ?_ _)); exact BK216.out) hb); have n7_ := Aside0.mk (blk_below (g := gb222) (o := .cells #[.int .i64 t220, .int .i64 t221] 26 (0, 0)) (by (with_reducible repeat (first | refine blk_drewN ?_ _ | refine blk_drew ?_ | refine blk_alloc ?_ _)); refine blk_put (cs := #[.int .i64 t220, .int .i64 0]) ?_ 1 _ rfl; (with_reducible repeat (first | refine blk_drewN ?_ _ | refine blk_drew ?_ | refine blk_alloc ?_ _)); refine blk_put (cs := #[.int .i64 0, .int .i64 0]) ?_ 0 _ rfl; (with_reducible repeat (first | refine blk_drewN ?_ _ | refine blk_drew ?_ | refine blk_alloc ?_ _)); exact BK222.out) hb); have n8_ := pxs HB hb; clear HO_9; clear HO_10; clear HO213; clear HO219; clear BK202; clear BK216; clear BK222; clear HB; have HO_9 := n0_; have HO_10 := n1_; have HO213 := n2_; have HO219 := n3_; have HO225 := n4_; have BK202 := n5_; have BK216 := n6_; have BK222 := n7_; have HB := n8_; clear n0_ n1_ n2_ n3_ n4_ n5_ n6_ n7_ n8_; (try clear hb); (try clear hb2); (try clear hk); (try clear hi); (try clear ho0)) | ((with_reducible refine gate_dst (N := 17) rfl ?_); refine box_event ?hg (N := 17) ?hd (cs := #[.int .i64 0, .int .i64 0]) (t := 26) ?hr ?_; (case hd => rfl); (case hg => rfl); (case hr => first | (go_simp; done) | (go_simp; rfl)); intro gb228 hg w75 hbox hb; have n0_ := Aside0.mk (Kd.R_below (pxr HO_9) hb); have n1_ := Aside0.mk (Kd.R_below (pxr HO_10) hb); have n2_ := Aside0.mk (Kd.R_below (pxr HO213) hb); have n3_ := Aside0.mk (Kd.R_below (pxr HO219) hb); have n4_ := Aside0.mk (Kd.R_below (pxr HO225) hb); have n5_ := pxk BK202 hb; have n6_ := pxk BK216 hb; have n7_ := pxk BK222 hb; have n8_ := pxs HB hb; have n9_ := Aside0.mk (hbox); have n10_ := Aside0.mk ((by rw [hg]; exact (below_size (pxb HB)) : w.heap.size ≤ gb228)); have n11_ := Aside0.mk ((by rw [hg]; exact (below_size (pxb HB)) : w.heap.size ≤ gb228)); have n12_ := Aside0.mk ((by rw [hg]; exact Nat.ne_of_lt (blk_lt (g := gb202) (o := .cells #[.int .i64 t200, .int .i64 t201] 26 (0, 0)) (pxq BK202)) : gb202 ≠ gb228)); have n13_ := Aside0.mk ((by rw [hg]; exact Nat.ne_of_gt (blk_lt (g := gb202) (o := .cells #[.int .i64 t200, .int .i64 t201] 26 (0, 0)) (pxq BK202)) : gb228 ≠ gb202)); have n14_ := Aside0.mk ((by rw [hg]; exact Nat.ne_of_lt (blk_lt (g := gb216) (o := .cells #[.int .i64 t214, .int .i64 t215] 26 (0, 0)) (pxq BK216)) : gb216 ≠ gb228)); have n15_ := Aside0.mk ((by rw [hg]; exact Nat.ne_of_gt (blk_lt (g := gb216) (o := .cells #[.int .i64 t214, .int .i64 t215] 26 (0, 0)) (pxq BK216)) : gb228 ≠ gb216)); have n16_ := Aside0.mk ((by rw [hg]; exact Nat.ne_of_lt (blk_lt (g := gb222) (o := .cells #[.int .i64 t220, .int .i64 t221] 26 (0, 0)) (pxq BK222)) : gb222 ≠ gb228)); have n17_ := Aside0.mk ((by rw [hg]; exact Nat.ne_of_gt (blk_lt (g := gb222) (o := .cells #[.int .i64 t220, .int .i64 t221] 26 (0, 0)) (pxq BK222)) : gb228 ≠ gb222)); clear HO_9; clear HO_10; clear HO213; clear HO219; clear HO225; clear BK202; clear BK216; clear BK222; clear HB; have HO_9 := n0_; have HO_10 := n1_; have HO213 := n2_; have HO219 := n3_; have HO225 := n4_; have BK202 := n5_; have BK216 := n6_; have BK222 := n7_; have HB := n8_; have BK228 := n9_; have GW228 := n10_; have GE228 := n11_; have NB202_228 := n12_; have NB228_202 := n13_; have NB216_228 := n14_; have NB228_216 := n15_; have NB222_228 := n16_; have NB228_222 := n17_; clear n0_ n1_ n2_ n3_ n4_ n5_ n6_ n7_ n8_ n9_ n10_ n11_ n12_ n13_ n14_ n15_ n16_ n17_; clear hb hbox hg; have hnb76 := NB228_202.out; have hnc76 := NB202_228.out; have hnb77 := NB228_216.out; have hnc77 := NB216_228.out; have hnb78 := NB228_222.out; have hnc78 := NB222_228.out; have hcz79_0 : w75.cell? ⟨gb228, 0, none⟩ = some (.int .i64 0) := (blk_cell BK228.out 0).trans rfl; have hcz79_1 : w75.cell? ⟨gb228, 1, none⟩ = some (.int .i64 0) := (blk_cell BK228.out 1).trans rfl; have hfz79_0 := blk_frozen BK228.out 0; have hfz79_1 := blk_frozen BK228.out 1; have hcz80_0 : w75.cell? ⟨gb216, 0, none⟩ = some (.int .i64 t214) := (blk_cell BK216.out 0).trans rfl; have hcz80_1 : w75.cell? ⟨gb216, 1, none⟩ = some (.int .i64 t215) := (blk_cell BK216.out 1).trans rfl; have hfz80_0 := blk_frozen BK216.out 0; have hfz80_1 := blk_frozen BK216.out 1; have hcz81_0 : w75.cell? ⟨gb222, 0, none⟩ = some (.int .i64 t220) := (blk_cell BK222.out 0).trans rfl; have hcz81_1 : w75.cell? ⟨gb222, 1, none⟩ = some (.int .i64 t221) := (blk_cell BK222.out 1).trans rfl; have hfz81_0 := blk_frozen BK222.out 0; have hfz81_1 := blk_frozen BK222.out 1))
                     go_ret
                     exact ⟨by first | rfl | (simp [errW_none, errW_some] <;> rfl) | (simp [*, errW_none, errW_some] <;> rfl), pxb HB⟩
                    ·rw [if_neg c61] at H
                     exact absurd H (by simp)
                   ·rw [if_neg c60] at H
                    exact absurd H (by simp)
                  ·rw [if_neg c58] at H
                   exact absurd H (by simp)
                 ·rw [if_neg c57] at H
                  exact absurd H (by simp)
             ·rw [if_neg c38] at H
              exact absurd H (by simp)
            ·rw [if_neg c37] at H
             exact absurd H (by simp)
      ·rw [if_neg c12] at H
       exact absurd H (by simp)
     ·rw [if_neg c11] at H
      exact absurd H (by simp)
 ·replace c4 := Bool.eq_false_iff.mpr c4
  subst c4
  have H1 : (none) = some r := by rw [if_neg (show ¬ (false = true) by decide)] at H; exact H
  clear H
  have H := H1
  clear H1
  exact absurd H (by simp)

/-- THE ONE PURE STATEMENT of caulkerlaw06_LexLimits. -/
def caulkerlaw06_LexLimits.Pure : Prop := ∀ (a0 : Int) (a1 : Int), (Lit.int .i64 a0).wf = true → (Lit.int .i64 a1).wf = true → ∃ k, caulkerlaw06_LexLimits.f k a0 a1 = some true

end Go.Proofs.Ytlcblkjgkaiadaa.X
