/- What the program's functions answer, as Lean functions, and that each call does just that; no condition. Written by a program (px.py) out of the translation. -/
import Derived.Test.YtfnemjejfccecaaX0
import Derived.Test.YtfnemjejfccecaaX36
import Derived.Test.YtfnemjejfccecaaX29
import Derived.Test.YtfnemjejfccecaaX30
import Derived.Test.YtfnemjejfccecaaX32
import Derived.Test.YtfnemjejfccecaaX38
namespace Go.Proofs.Ytfnemjejfccecaa.X
open Go.RowKit Go.Proofs.YtfnemjejfccecaaW.PrintWords Go.Proofs.YtfnemjejfccecaaW.PrintLast Go.Proofs.YtfnemjejfccecaaW.PrintMore
attribute [local go_sem] max2_int min2_int max_two min_two max_three min_three max_four min_four   -- for this text's walks alone
set_option linter.unusedVariables false
set_option linter.unusedSimpArgs false

/-! ### caulkerlaw03_EditThen: function 13 -/
def caulkerlaw03_EditThen.j0 : Nat → ByteArray → List (S60) → List (S60) → Bool → Option (Bool)
 | 0, _, _, _, _ => none
 | k + 1, x0, x1, x2, x25 => if x25 = true then (some true) else ((edit_Then.f k x0 x1 x2).bind fun bt505 => ((caulkerref03_Apply.f k x0 x1).bind fun bt509 => (if bt509.2 = 0 then ((caulkerref03_Apply.f k bt509.1 x2).bind fun bt511 => (if bt511.2 = 0 then ((caulkerref03_Apply.f k x0 bt505.1).bind fun bt513 => (if bt505.2 = 0 then (if bt513.2 = 0 then (if bt513.1.toList = bt511.1.toList then ((edit_Cost.f k bt505.1).bind fun t515 => ((edit_Cost.f k x1).bind fun t516 => ((edit_Cost.f k x2).bind fun t517 => (some (decide (t515 ≤ (wrap64 (t516 + t517)))))))) else (some false)) else (some false)) else (some false))) else (if bt505.2 = bt511.2 then (some ((bt505.1.length : Int) == 0)) else (some false)))) else (if bt505.2 = bt509.2 then (some ((bt505.1.length : Int) == 0)) else (some false)))))
def caulkerlaw03_EditThen.f (k : Nat) (a0 : ByteArray) (l1 : List (S60)) (l2 : List (S60)) : Option (Bool) := (caulkerlaw03_edits.f k).bind fun t502 => (if t502 = true then ((caulkerlaw03_small.f k a0 l1).bind fun t503 => (if t503 = true then ((caulkerlaw03_small.f k a0 l2).bind fun t504 => (caulkerlaw03_EditThen.j0 k a0 l1 l2 (!t504))) else (caulkerlaw03_EditThen.j0 k a0 l1 l2 true))) else (some false))
theorem caulkerlaw03_EditThen.mono_l : ∀ k, (∀ y0 y1 y2 y3, LeO (caulkerlaw03_EditThen.j0 k y0 y1 y2 y3) (caulkerlaw03_EditThen.j0 (k + 1) y0 y1 y2 y3))
 | 0 => fun _ _ _ _ r h => by simp [caulkerlaw03_EditThen.j0] at h
 | k + 1 => by
  have ih0 := caulkerlaw03_EditThen.mono_l k
  ·intro y0 y1 y2 y3
   unfold caulkerlaw03_EditThen.j0
   repeat' first
   | (with_reducible exact ih0 _ _ _ _)
   | (with_reducible exact caulkerlaw03_edits.mono _)
   | (with_reducible exact caulkerlaw03_small.mono _ _ _)
   | (with_reducible exact caulkerref03_Apply.mono _ _ _)
   | (with_reducible exact edit_Cost.mono _ _)
   | (with_reducible exact edit_Then.mono _ _ _ _)
   | (with_reducible exact LeO.refl _)
   | (with_reducible exact LeO.none _)
   | (with_reducible refine LeO.ite ?_ ?_)
   | (with_reducible refine LeO.bind ?_ (fun _ => ?_))
   | exact ih0 _ _ _ _
   | exact caulkerlaw03_edits.mono _
   | exact caulkerlaw03_small.mono _ _ _
   | exact caulkerref03_Apply.mono _ _ _
   | exact edit_Cost.mono _ _
   | exact edit_Then.mono _ _ _ _
   | exact LeO.none _
   | refine LeO.ite ?_ ?_
   | refine LeO.bind ?_ (fun _ => ?_)
theorem caulkerlaw03_EditThen.mono : ∀ a0 a1 a2 k, LeO (caulkerlaw03_EditThen.f k a0 a1 a2) (caulkerlaw03_EditThen.f (k + 1) a0 a1 a2) := by
 intro a0 a1 a2 k
 have ih0 := caulkerlaw03_EditThen.mono_l k
 unfold caulkerlaw03_EditThen.f
 repeat' first
   | (with_reducible exact ih0 _ _ _ _)
   | (with_reducible exact caulkerlaw03_edits.mono _)
   | (with_reducible exact caulkerlaw03_small.mono _ _ _)
   | (with_reducible exact caulkerref03_Apply.mono _ _ _)
   | (with_reducible exact edit_Cost.mono _ _)
   | (with_reducible exact edit_Then.mono _ _ _ _)
   | (with_reducible exact LeO.refl _)
   | (with_reducible exact LeO.none _)
   | (with_reducible refine LeO.ite ?_ ?_)
   | (with_reducible refine LeO.bind ?_ (fun _ => ?_))
   | exact ih0 _ _ _ _
   | exact caulkerlaw03_edits.mono _
   | exact caulkerlaw03_small.mono _ _ _
   | exact caulkerref03_Apply.mono _ _ _
   | exact edit_Cost.mono _ _
   | exact edit_Then.mono _ _ _ _
   | exact LeO.none _
   | refine LeO.ite ?_ ?_
   | refine LeO.bind ?_ (fun _ => ?_)
set_option maxHeartbeats 8000000 in
set_option maxRecDepth 100000 in
theorem caulkerlaw03_EditThen.calls (k : Nat) (a0 : ByteArray) (A1 : Option Addr) (c1 : Nat) (l1 : List (S60)) (A2 : Option Addr) (c2 : Nat) (l2 : List (S60)) (r : Bool) (w : World) (hr1 : Kd.C k60 w A1 l1.length l1) (hc1 : l1.length ≤ c1) (hr2 : Kd.C k60 w A2 l2.length l2) (hc2 : l2.length ≤ c2) (h : caulkerlaw03_EditThen.f k a0 l1 l2 = some r) :
  Calls Try.prog 13 #[.string a0, .slice A1 l1.length c1, .slice A2 l2.length c2] w fun e w' => e = .returned (.bool r) ∧ Below w.heap.size w w' := by
 have HR1 := Aside0.mk hr1
 have HC1 := Aside0.mk hc1
 clear hr1 hc1
 have HR2 := Aside0.mk hr2
 have HC2 := Aside0.mk hc2
 clear hr2 hc2
 have HB := Aside0.mk (Below.refl w.heap.size w)
 have H : ((caulkerlaw03_edits.f k).bind fun t502 => (if t502 = true then ((caulkerlaw03_small.f k a0 l1).bind fun t503 => (if t503 = true then ((caulkerlaw03_small.f k a0 l2).bind fun t504 => (caulkerlaw03_EditThen.j0 k a0 l1 l2 (!t504))) else (caulkerlaw03_EditThen.j0 k a0 l1 l2 true))) else (some false))) = some r := h
 clear h
 replace H := Option.bind_eq_some_iff.mp H
 obtain ⟨t502, A40, H⟩ := H
 replace H : (if t502 = true then ((caulkerlaw03_small.f k a0 l1).bind fun t503 => (if t503 = true then ((caulkerlaw03_small.f k a0 l2).bind fun t504 => (caulkerlaw03_EditThen.j0 k a0 l1 l2 (!t504))) else (caulkerlaw03_EditThen.j0 k a0 l1 l2 true))) else (some false)) = some r := H
 have A4 := Aside0.mk A40
 clear A40
 by_cases c5 : t502 = true
 ·subst c5
  have H1 : ((caulkerlaw03_small.f k a0 l1).bind fun t503 => (if t503 = true then ((caulkerlaw03_small.f k a0 l2).bind fun t504 => (caulkerlaw03_EditThen.j0 k a0 l1 l2 (!t504))) else (caulkerlaw03_EditThen.j0 k a0 l1 l2 true))) = some r := by rw [if_pos rfl] at H; exact H
  clear H
  have H := H1
  clear H1
  have HC6 := Aside0.mk H
  clear H
  go_enter Try.func13, Try.ntmps13
  go_upto_region 3 with (first | ((with_reducible refine gate_callee (f := 29) rfl ?_); refine goesL_ (some 14) rfl rfl Try.func29 (by kernel_rfl) rfl #[] rfl (by (try simp only [List.map_toArray, List.map_cons, List.map_nil]); first | done | rfl | (simp only [List.length_drop, List.length_take]; rfl)) ?_; (with_reducible refine (caulkerlaw03_edits.calls k  true _ A4.out).mono ?_); rintro e w7 ⟨rfl, hb⟩; refine ⟨_, rfl, ?_⟩; have n0_ := pxs HB hb; clear HB; have HB := n0_; clear n0_; (try clear hb); (try clear hb2); (try clear hk); (try clear hi)))
  (try simp only [Act.put, List.setIfInBounds_toArray, List.set_cons_zero, List.set_cons_succ])
  go_cut [25] (fun v25 wc => ∃ (kq : Nat) (x25_5 : Bool), v25 = .bool x25_5 ∧ Aside0 (caulkerlaw03_EditThen.j0 kq a0 l1 l2 x25_5 = some r) ∧ Aside0 (kq ≤ k) ∧ Aside0 (Below w.heap.size w wc))
  case first =>
   have H := HC6.out
   clear HC6
   replace H := Option.bind_eq_some_iff.mp H
   obtain ⟨t503, A80, H⟩ := H
   replace H : (if t503 = true then ((caulkerlaw03_small.f k a0 l2).bind fun t504 => (caulkerlaw03_EditThen.j0 k a0 l1 l2 (!t504))) else (caulkerlaw03_EditThen.j0 k a0 l1 l2 true)) = some r := H
   have A8 := Aside0.mk A80
   clear A80
   by_cases c9 : t503 = true
   ·subst c9
    have H1 : ((caulkerlaw03_small.f k a0 l2).bind fun t504 => (caulkerlaw03_EditThen.j0 k a0 l1 l2 (!t504))) = some r := by rw [if_pos rfl] at H; exact H
    clear H
    have H := H1
    clear H1
    replace H := Option.bind_eq_some_iff.mp H
    obtain ⟨t504, A100, H⟩ := H
    replace H : (caulkerlaw03_EditThen.j0 k a0 l1 l2 (!t504)) = some r := H
    have A10 := Aside0.mk A100
    clear A100
    have H' := Aside0.mk H
    clear H
    go_wp2_with (first | ((with_reducible refine gate_callee (f := 30) rfl ?_); refine goesL_ (some 18) rfl rfl Try.func30 (by kernel_rfl) rfl #[.string a0, .slice A1 l1.length c1] rfl (by (try simp only [List.map_toArray, List.map_cons, List.map_nil]); first | done | rfl | (simp only [List.length_drop, List.length_take]; rfl)) ?_; (with_reducible refine (caulkerlaw03_small.calls k a0 _ _ l1 true _ ?side1 ?side2 A8.out).mono ?_); (case side1 => exact pxc HR1 HB); (case side2 => exact HC1.out); rintro e w11 ⟨rfl, hb⟩; refine ⟨_, rfl, ?_⟩; have n0_ := pxs HB hb; clear HB; have HB := n0_; clear n0_; (try clear hb); (try clear hb2); (try clear hk); (try clear hi)) | (go_at_call 30; (with_reducible refine (caulkerlaw03_small.calls k a0 _ _ l2 t504 _ ?side1 ?side2 A10.out).mono ?_); (case side1 => exact pxc HR2 HB); (case side2 => exact HC2.out); rintro e w12 ⟨rfl, hb⟩; have n0_ := pxs HB hb; clear HB; have HB := n0_; clear n0_; (try clear hb); (try clear hb2); (try clear hk); (try clear hi)))
    go_meet
    case rel => exact ⟨_, (!t504), (by first | rfl | (simp; done) | (simp [*]; done)), H', ⟨by first | omega | exact Nat.le_refl _⟩, ⟨pxb HB⟩⟩
   ·replace c9 := Bool.eq_false_iff.mpr c9
    subst c9
    have H1 : (caulkerlaw03_EditThen.j0 k a0 l1 l2 true) = some r := by rw [if_neg (show ¬ (false = true) by decide)] at H; exact H
    clear H
    have H := H1
    clear H1
    have H' := Aside0.mk H
    clear H
    go_wp2_with (first | ((with_reducible refine gate_callee (f := 30) rfl ?_); refine goesL_ (some 18) rfl rfl Try.func30 (by kernel_rfl) rfl #[.string a0, .slice A1 l1.length c1] rfl (by (try simp only [List.map_toArray, List.map_cons, List.map_nil]); first | done | rfl | (simp only [List.length_drop, List.length_take]; rfl)) ?_; (with_reducible refine (caulkerlaw03_small.calls k a0 _ _ l1 false _ ?side1 ?side2 A8.out).mono ?_); (case side1 => exact pxc HR1 HB); (case side2 => exact HC1.out); rintro e w13 ⟨rfl, hb⟩; refine ⟨_, rfl, ?_⟩; have n0_ := pxs HB hb; clear HB; have HB := n0_; clear n0_; (try clear hb); (try clear hb2); (try clear hk); (try clear hi)))
    go_meet
    case rel => exact ⟨_, (true), (by first | rfl | (simp; done) | (simp [*]; done)), H', ⟨by first | omega | exact Nat.le_refl _⟩, ⟨pxb HB⟩⟩
  case rest =>
   clear HC6
   try clear c1
   try clear c2
   try clear p2
   try clear c3
   try clear c5
   try clear c9
   try clear c13
   obtain ⟨kq, x25_5, rfl, HA, HJ5, HB⟩ := hcut
   cases kq with
   | zero => exact absurd HA.out (by simp [caulkerlaw03_EditThen.j0])
   | succ kj5 =>
    have H := HA.out
    clear HA
    simp only [caulkerlaw03_EditThen.j0] at H
    by_cases c14 : x25_5 = true
    ·subst c14
     have H1 : (some true) = some r := by rw [if_pos rfl] at H; exact H
     clear H
     have H := H1
     clear H1
     obtain rfl := Option.some.inj H
     go_wp2
     go_ret
     exact ⟨by first | rfl | (simp [errW_none, errW_some] <;> rfl) | (simp [*, errW_none, errW_some] <;> rfl), pxb HB⟩
    ·replace c14 := Bool.eq_false_iff.mpr c14
     subst c14
     have H1 : ((edit_Then.f kj5 a0 l1 l2).bind fun bt505 => ((caulkerref03_Apply.f kj5 a0 l1).bind fun bt509 => (if bt509.2 = 0 then ((caulkerref03_Apply.f kj5 bt509.1 l2).bind fun bt511 => (if bt511.2 = 0 then ((caulkerref03_Apply.f kj5 a0 bt505.1).bind fun bt513 => (if bt505.2 = 0 then (if bt513.2 = 0 then (if bt513.1.toList = bt511.1.toList then ((edit_Cost.f kj5 bt505.1).bind fun t515 => ((edit_Cost.f kj5 l1).bind fun t516 => ((edit_Cost.f kj5 l2).bind fun t517 => (some (decide (t515 ≤ (wrap64 (t516 + t517)))))))) else (some false)) else (some false)) else (some false))) else (if bt505.2 = bt511.2 then (some ((bt505.1.length : Int) == 0)) else (some false)))) else (if bt505.2 = bt509.2 then (some ((bt505.1.length : Int) == 0)) else (some false))))) = some r := by rw [if_neg (show ¬ (false = true) by decide)] at H; exact H
     clear H
     have H := H1
     clear H1
     replace H := Option.bind_eq_some_iff.mp H
     obtain ⟨⟨t505, t506⟩, A150, H⟩ := H
     replace H : ((caulkerref03_Apply.f kj5 a0 l1).bind fun bt509 => (if bt509.2 = 0 then ((caulkerref03_Apply.f kj5 bt509.1 l2).bind fun bt511 => (if bt511.2 = 0 then ((caulkerref03_Apply.f kj5 a0 t505).bind fun bt513 => (if t506 = 0 then (if bt513.2 = 0 then (if bt513.1.toList = bt511.1.toList then ((edit_Cost.f kj5 t505).bind fun t515 => ((edit_Cost.f kj5 l1).bind fun t516 => ((edit_Cost.f kj5 l2).bind fun t517 => (some (decide (t515 ≤ (wrap64 (t516 + t517)))))))) else (some false)) else (some false)) else (some false))) else (if t506 = bt511.2 then (some ((t505.length : Int) == 0)) else (some false)))) else (if t506 = bt509.2 then (some ((t505.length : Int) == 0)) else (some false)))) = some r := H
     have A15 := Aside0.mk A150
     clear A150
     replace H := Option.bind_eq_some_iff.mp H
     obtain ⟨⟨t509, t510⟩, A160, H⟩ := H
     replace H : (if t510 = 0 then ((caulkerref03_Apply.f kj5 t509 l2).bind fun bt511 => (if bt511.2 = 0 then ((caulkerref03_Apply.f kj5 a0 t505).bind fun bt513 => (if t506 = 0 then (if bt513.2 = 0 then (if bt513.1.toList = bt511.1.toList then ((edit_Cost.f kj5 t505).bind fun t515 => ((edit_Cost.f kj5 l1).bind fun t516 => ((edit_Cost.f kj5 l2).bind fun t517 => (some (decide (t515 ≤ (wrap64 (t516 + t517)))))))) else (some false)) else (some false)) else (some false))) else (if t506 = bt511.2 then (some ((t505.length : Int) == 0)) else (some false)))) else (if t506 = t510 then (some ((t505.length : Int) == 0)) else (some false))) = some r := H
     have A16 := Aside0.mk A160
     clear A160
     by_cases c17 : t510 = 0
     ·rw [if_pos c17] at H
      have c17b0 : (t510 == 0) = true := beq_iff_eq.mpr c17
      have c17b1 : (t510 != 0) = false := bne_eq_false_iff_eq.mpr c17
      clear c17
      replace H := Option.bind_eq_some_iff.mp H
      obtain ⟨⟨t511, t512⟩, A180, H⟩ := H
      replace H : (if t512 = 0 then ((caulkerref03_Apply.f kj5 a0 t505).bind fun bt513 => (if t506 = 0 then (if bt513.2 = 0 then (if bt513.1.toList = t511.toList then ((edit_Cost.f kj5 t505).bind fun t515 => ((edit_Cost.f kj5 l1).bind fun t516 => ((edit_Cost.f kj5 l2).bind fun t517 => (some (decide (t515 ≤ (wrap64 (t516 + t517)))))))) else (some false)) else (some false)) else (some false))) else (if t506 = t512 then (some ((t505.length : Int) == 0)) else (some false))) = some r := H
      have A18 := Aside0.mk A180
      clear A180
      by_cases c19 : t512 = 0
      ·rw [if_pos c19] at H
       have c19b0 : (t512 == 0) = true := beq_iff_eq.mpr c19
       have c19b1 : (t512 != 0) = false := bne_eq_false_iff_eq.mpr c19
       clear c19
       replace H := Option.bind_eq_some_iff.mp H
       obtain ⟨⟨t513, t514⟩, A200, H⟩ := H
       replace H : (if t506 = 0 then (if t514 = 0 then (if t513.toList = t511.toList then ((edit_Cost.f kj5 t505).bind fun t515 => ((edit_Cost.f kj5 l1).bind fun t516 => ((edit_Cost.f kj5 l2).bind fun t517 => (some (decide (t515 ≤ (wrap64 (t516 + t517)))))))) else (some false)) else (some false)) else (some false)) = some r := H
       have A20 := Aside0.mk A200
       clear A200
       by_cases c21 : t506 = 0
       ·rw [if_pos c21] at H
        have c21b0 : (t506 == 0) = true := beq_iff_eq.mpr c21
        have c21b1 : (t506 != 0) = false := bne_eq_false_iff_eq.mpr c21
        clear c21
        by_cases c22 : t514 = 0
        ·rw [if_pos c22] at H
         have c22b0 : (t514 == 0) = true := beq_iff_eq.mpr c22
         have c22b1 : (t514 != 0) = false := bne_eq_false_iff_eq.mpr c22
         clear c22
         by_cases c23 : t513.toList = t511.toList
         ·rw [if_pos c23] at H
          have c23b0 : (t513.toList == t511.toList) = true := beq_iff_eq.mpr c23
          have c23b1 : (t513.toList != t511.toList) = false := bne_eq_false_iff_eq.mpr c23
          clear c23
          replace H := Option.bind_eq_some_iff.mp H
          obtain ⟨t515, A240, H⟩ := H
          replace H : ((edit_Cost.f kj5 l1).bind fun t516 => ((edit_Cost.f kj5 l2).bind fun t517 => (some (decide (t515 ≤ (wrap64 (t516 + t517))))))) = some r := H
          have A24 := Aside0.mk A240
          clear A240
          replace H := Option.bind_eq_some_iff.mp H
          obtain ⟨t516, A250, H⟩ := H
          replace H : ((edit_Cost.f kj5 l2).bind fun t517 => (some (decide (t515 ≤ (wrap64 (t516 + t517)))))) = some r := H
          have A25 := Aside0.mk A250
          clear A250
          replace H := Option.bind_eq_some_iff.mp H
          obtain ⟨t517, A260, H⟩ := H
          replace H : (some (decide (t515 ≤ (wrap64 (t516 + t517))))) = some r := H
          have A26 := Aside0.mk A260
          clear A260
          obtain rfl := Option.some.inj H
          go_wp2_with (first | ((with_reducible refine gate_callee (f := 38) rfl ?_); refine goesL_ (some 30) rfl rfl Try.func38 (by kernel_rfl) rfl #[.string a0, .slice A1 l1.length c1, .slice A2 l2.length c2] rfl (by (try simp only [List.map_toArray, List.map_cons, List.map_nil]); first | done | rfl | (simp only [List.length_drop, List.length_take]; rfl)) ?_; (with_reducible refine (edit_Then.calls kj5 a0 _ _ l1 _ _ l2 t505 t506 _ ?side1 ?side2 ?side3 ?side4 A15.out).mono ?_); (case side1 => exact pxc HR1 HB); (case side2 => exact HC1.out); (case side3 => exact pxc HR2 HB); (case side4 => exact HC2.out); rintro e w27 ⟨v507, rfl, ho0, hb⟩; refine ⟨_, rfl, ?_⟩; have n0_ := Aside0.mk (Kd.R_lower ho0 (below_size (pxb HB))); have n1_ := pxs HB hb; clear HB; have HO508 := n0_; have HB := n1_; clear n0_ n1_; (try clear hb); (try clear hb2); (try clear hk); (try clear hi); (try clear ho0)) | ((with_reducible refine gate_callee (f := 32) rfl ?_); refine goesL_ (some 36) rfl rfl Try.func32 (by kernel_rfl) rfl #[.string a0, .slice A1 l1.length c1] rfl (by (try simp only [List.map_toArray, List.map_cons, List.map_nil]); first | done | rfl | (simp only [List.length_drop, List.length_take]; rfl)) ?_; (with_reducible refine (caulkerref03_Apply.calls kj5 a0 _ _ l1 t509 t510 _ ?side1 ?side2 A16.out).mono ?_); (case side1 => exact pxc HR1 HB); (case side2 => exact HC1.out); rintro e w28 ⟨rfl, hb⟩; refine ⟨_, rfl, ?_⟩; have n0_ := Aside0.mk (Kd.R_below (pxr HO508) hb); have n1_ := pxs HB hb; clear HO508; clear HB; have HO508 := n0_; have HB := n1_; clear n0_ n1_; (try clear hb); (try clear hb2); (try clear hk); (try clear hi)) | ((with_reducible refine gate_callee (f := 32) rfl ?_); refine goesL_ (some 52) rfl rfl Try.func32 (by kernel_rfl) rfl #[.string t509, .slice A2 l2.length c2] rfl (by (try simp only [List.map_toArray, List.map_cons, List.map_nil]); first | done | rfl | (simp only [List.length_drop, List.length_take]; rfl)) ?_; (with_reducible refine (caulkerref03_Apply.calls kj5 t509 _ _ l2 t511 t512 _ ?side1 ?side2 A18.out).mono ?_); (case side1 => exact pxc HR2 HB); (case side2 => exact HC2.out); rintro e w29 ⟨rfl, hb⟩; refine ⟨_, rfl, ?_⟩; have n0_ := Aside0.mk (Kd.R_below (pxr HO508) hb); have n1_ := pxs HB hb; clear HO508; clear HB; have HO508 := n0_; have HB := n1_; clear n0_ n1_; (try clear hb); (try clear hb2); (try clear hk); (try clear hi); obtain ⟨Ao30, co30, eo30⟩ := Kd.R_slice HO508.out; subst eo30) | ((with_reducible refine gate_callee (f := 32) rfl ?_); refine goesL_ (some 68) rfl rfl Try.func32 (by kernel_rfl) rfl #[.string a0, .slice Ao30 t505.length co30] rfl (by (try simp only [List.map_toArray, List.map_cons, List.map_nil]); first | done | rfl | (simp only [List.length_drop, List.length_take]; rfl)) ?_; (with_reducible refine (caulkerref03_Apply.calls kj5 a0 _ _ t505 t513 t514 _ ?side1 ?side2 A20.out).mono ?_); (case side1 => repeat (first | exact (Kd.R_reads' HO508.out).2.2 | (with_reducible refine Kd.C_alloc ?_ _) | (with_reducible refine Kd.C_drewN ?_ _) | (with_reducible refine Kd.C_drew ?_))); (case side2 => exact (Kd.R_reads' HO508.out).2.1); rintro e w31 ⟨rfl, hb⟩; refine ⟨_, rfl, ?_⟩; have n0_ := Aside0.mk (Kd.R_below (pxr HO508) hb); have n1_ := pxs HB hb; clear HO508; clear HB; have HO508 := n0_; have HB := n1_; clear n0_ n1_; (try clear hb); (try clear hb2); (try clear hk); (try clear hi)) | (go_at_call 36; (with_reducible refine (edit_Cost.calls kj5 _ _ t505 t515 _ ?side1 ?side2 A24.out).mono ?_); (case side1 => repeat (first | exact (Kd.R_reads' HO508.out).2.2 | (with_reducible refine Kd.C_alloc ?_ _) | (with_reducible refine Kd.C_drewN ?_ _) | (with_reducible refine Kd.C_drew ?_))); (case side2 => exact (Kd.R_reads' HO508.out).2.1); rintro e w32 ⟨rfl, hb⟩; have n0_ := Aside0.mk (Kd.R_below (pxr HO508) hb); have n1_ := pxs HB hb; clear HO508; clear HB; have HO508 := n0_; have HB := n1_; clear n0_ n1_; (try clear hb); (try clear hb2); (try clear hk); (try clear hi)) | (go_at_call 36; (with_reducible refine (edit_Cost.calls kj5 _ _ l1 t516 _ ?side1 ?side2 A25.out).mono ?_); (case side1 => exact pxc HR1 HB); (case side2 => exact HC1.out); rintro e w33 ⟨rfl, hb⟩; have n0_ := Aside0.mk (Kd.R_below (pxr HO508) hb); have n1_ := pxs HB hb; clear HO508; clear HB; have HO508 := n0_; have HB := n1_; clear n0_ n1_; (try clear hb); (try clear hb2); (try clear hk); (try clear hi)) | (go_at_call 36; (with_reducible refine (edit_Cost.calls kj5 _ _ l2 t517 _ ?side1 ?side2 A26.out).mono ?_); (case side1 => exact pxc HR2 HB); (case side2 => exact HC2.out); rintro e w34 ⟨rfl, hb⟩; have n0_ := Aside0.mk (Kd.R_below (pxr HO508) hb); have n1_ := pxs HB hb; clear HO508; clear HB; have HO508 := n0_; have HB := n1_; clear n0_ n1_; (try clear hb); (try clear hb2); (try clear hk); (try clear hi)))
          go_ret
          exact ⟨by first | rfl | (simp [errW_none, errW_some] <;> rfl) | (simp [*, errW_none, errW_some] <;> rfl), pxb HB⟩
         ·rw [if_neg c23] at H
          have c23b0 : (t513.toList == t511.toList) = false := beq_eq_false_iff_ne.mpr c23
          have c23b1 : (t513.toList != t511.toList) = true := bne_iff_ne.mpr c23
          obtain rfl := Option.some.inj H
          go_wp2_with (first | ((with_reducible refine gate_callee (f := 38) rfl ?_); refine goesL_ (some 30) rfl rfl Try.func38 (by kernel_rfl) rfl #[.string a0, .slice A1 l1.length c1, .slice A2 l2.length c2] rfl (by (try simp only [List.map_toArray, List.map_cons, List.map_nil]); first | done | rfl | (simp only [List.length_drop, List.length_take]; rfl)) ?_; (with_reducible refine (edit_Then.calls kj5 a0 _ _ l1 _ _ l2 t505 t506 _ ?side1 ?side2 ?side3 ?side4 A15.out).mono ?_); (case side1 => exact pxc HR1 HB); (case side2 => exact HC1.out); (case side3 => exact pxc HR2 HB); (case side4 => exact HC2.out); rintro e w35 ⟨v507, rfl, ho0, hb⟩; refine ⟨_, rfl, ?_⟩; have n0_ := Aside0.mk (Kd.R_lower ho0 (below_size (pxb HB))); have n1_ := pxs HB hb; clear HB; have HO508 := n0_; have HB := n1_; clear n0_ n1_; (try clear hb); (try clear hb2); (try clear hk); (try clear hi); (try clear ho0)) | ((with_reducible refine gate_callee (f := 32) rfl ?_); refine goesL_ (some 36) rfl rfl Try.func32 (by kernel_rfl) rfl #[.string a0, .slice A1 l1.length c1] rfl (by (try simp only [List.map_toArray, List.map_cons, List.map_nil]); first | done | rfl | (simp only [List.length_drop, List.length_take]; rfl)) ?_; (with_reducible refine (caulkerref03_Apply.calls kj5 a0 _ _ l1 t509 t510 _ ?side1 ?side2 A16.out).mono ?_); (case side1 => exact pxc HR1 HB); (case side2 => exact HC1.out); rintro e w36 ⟨rfl, hb⟩; refine ⟨_, rfl, ?_⟩; have n0_ := Aside0.mk (Kd.R_below (pxr HO508) hb); have n1_ := pxs HB hb; clear HO508; clear HB; have HO508 := n0_; have HB := n1_; clear n0_ n1_; (try clear hb); (try clear hb2); (try clear hk); (try clear hi)) | ((with_reducible refine gate_callee (f := 32) rfl ?_); refine goesL_ (some 52) rfl rfl Try.func32 (by kernel_rfl) rfl #[.string t509, .slice A2 l2.length c2] rfl (by (try simp only [List.map_toArray, List.map_cons, List.map_nil]); first | done | rfl | (simp only [List.length_drop, List.length_take]; rfl)) ?_; (with_reducible refine (caulkerref03_Apply.calls kj5 t509 _ _ l2 t511 t512 _ ?side1 ?side2 A18.out).mono ?_); (case side1 => exact pxc HR2 HB); (case side2 => exact HC2.out); rintro e w37 ⟨rfl, hb⟩; refine ⟨_, rfl, ?_⟩; have n0_ := Aside0.mk (Kd.R_below (pxr HO508) hb); have n1_ := pxs HB hb; clear HO508; clear HB; have HO508 := n0_; have HB := n1_; clear n0_ n1_; (try clear hb); (try clear hb2); (try clear hk); (try clear hi); obtain ⟨Ao38, co38, eo38⟩ := Kd.R_slice HO508.out; subst eo38) | ((with_reducible refine gate_callee (f := 32) rfl ?_); refine goesL_ (some 68) rfl rfl Try.func32 (by kernel_rfl) rfl #[.string a0, .slice Ao38 t505.length co38] rfl (by (try simp only [List.map_toArray, List.map_cons, List.map_nil]); first | done | rfl | (simp only [List.length_drop, List.length_take]; rfl)) ?_; (with_reducible refine (caulkerref03_Apply.calls kj5 a0 _ _ t505 t513 t514 _ ?side1 ?side2 A20.out).mono ?_); (case side1 => repeat (first | exact (Kd.R_reads' HO508.out).2.2 | (with_reducible refine Kd.C_alloc ?_ _) | (with_reducible refine Kd.C_drewN ?_ _) | (with_reducible refine Kd.C_drew ?_))); (case side2 => exact (Kd.R_reads' HO508.out).2.1); rintro e w39 ⟨rfl, hb⟩; refine ⟨_, rfl, ?_⟩; have n0_ := Aside0.mk (Kd.R_below (pxr HO508) hb); have n1_ := pxs HB hb; clear HO508; clear HB; have HO508 := n0_; have HB := n1_; clear n0_ n1_; (try clear hb); (try clear hb2); (try clear hk); (try clear hi)))
          go_ret
          exact ⟨by first | rfl | (simp [errW_none, errW_some] <;> rfl) | (simp [*, errW_none, errW_some] <;> rfl), pxb HB⟩
        ·rw [if_neg c22] at H
         have c22b0 : (t514 == 0) = false := beq_eq_false_iff_ne.mpr c22
         have c22b1 : (t514 != 0) = true := bne_iff_ne.mpr c22
         obtain rfl := Option.some.inj H
         go_wp2_with (first | ((with_reducible refine gate_callee (f := 38) rfl ?_); refine goesL_ (some 30) rfl rfl Try.func38 (by kernel_rfl) rfl #[.string a0, .slice A1 l1.length c1, .slice A2 l2.length c2] rfl (by (try simp only [List.map_toArray, List.map_cons, List.map_nil]); first | done | rfl | (simp only [List.length_drop, List.length_take]; rfl)) ?_; (with_reducible refine (edit_Then.calls kj5 a0 _ _ l1 _ _ l2 t505 t506 _ ?side1 ?side2 ?side3 ?side4 A15.out).mono ?_); (case side1 => exact pxc HR1 HB); (case side2 => exact HC1.out); (case side3 => exact pxc HR2 HB); (case side4 => exact HC2.out); rintro e w40 ⟨v507, rfl, ho0, hb⟩; refine ⟨_, rfl, ?_⟩; have n0_ := Aside0.mk (Kd.R_lower ho0 (below_size (pxb HB))); have n1_ := pxs HB hb; clear HB; have HO508 := n0_; have HB := n1_; clear n0_ n1_; (try clear hb); (try clear hb2); (try clear hk); (try clear hi); (try clear ho0)) | ((with_reducible refine gate_callee (f := 32) rfl ?_); refine goesL_ (some 36) rfl rfl Try.func32 (by kernel_rfl) rfl #[.string a0, .slice A1 l1.length c1] rfl (by (try simp only [List.map_toArray, List.map_cons, List.map_nil]); first | done | rfl | (simp only [List.length_drop, List.length_take]; rfl)) ?_; (with_reducible refine (caulkerref03_Apply.calls kj5 a0 _ _ l1 t509 t510 _ ?side1 ?side2 A16.out).mono ?_); (case side1 => exact pxc HR1 HB); (case side2 => exact HC1.out); rintro e w41 ⟨rfl, hb⟩; refine ⟨_, rfl, ?_⟩; have n0_ := Aside0.mk (Kd.R_below (pxr HO508) hb); have n1_ := pxs HB hb; clear HO508; clear HB; have HO508 := n0_; have HB := n1_; clear n0_ n1_; (try clear hb); (try clear hb2); (try clear hk); (try clear hi)) | ((with_reducible refine gate_callee (f := 32) rfl ?_); refine goesL_ (some 52) rfl rfl Try.func32 (by kernel_rfl) rfl #[.string t509, .slice A2 l2.length c2] rfl (by (try simp only [List.map_toArray, List.map_cons, List.map_nil]); first | done | rfl | (simp only [List.length_drop, List.length_take]; rfl)) ?_; (with_reducible refine (caulkerref03_Apply.calls kj5 t509 _ _ l2 t511 t512 _ ?side1 ?side2 A18.out).mono ?_); (case side1 => exact pxc HR2 HB); (case side2 => exact HC2.out); rintro e w42 ⟨rfl, hb⟩; refine ⟨_, rfl, ?_⟩; have n0_ := Aside0.mk (Kd.R_below (pxr HO508) hb); have n1_ := pxs HB hb; clear HO508; clear HB; have HO508 := n0_; have HB := n1_; clear n0_ n1_; (try clear hb); (try clear hb2); (try clear hk); (try clear hi); obtain ⟨Ao43, co43, eo43⟩ := Kd.R_slice HO508.out; subst eo43) | ((with_reducible refine gate_callee (f := 32) rfl ?_); refine goesL_ (some 68) rfl rfl Try.func32 (by kernel_rfl) rfl #[.string a0, .slice Ao43 t505.length co43] rfl (by (try simp only [List.map_toArray, List.map_cons, List.map_nil]); first | done | rfl | (simp only [List.length_drop, List.length_take]; rfl)) ?_; (with_reducible refine (caulkerref03_Apply.calls kj5 a0 _ _ t505 t513 t514 _ ?side1 ?side2 A20.out).mono ?_); (case side1 => repeat (first | exact (Kd.R_reads' HO508.out).2.2 | (with_reducible refine Kd.C_alloc ?_ _) | (with_reducible refine Kd.C_drewN ?_ _) | (with_reducible refine Kd.C_drew ?_))); (case side2 => exact (Kd.R_reads' HO508.out).2.1); rintro e w44 ⟨rfl, hb⟩; refine ⟨_, rfl, ?_⟩; have n0_ := Aside0.mk (Kd.R_below (pxr HO508) hb); have n1_ := pxs HB hb; clear HO508; clear HB; have HO508 := n0_; have HB := n1_; clear n0_ n1_; (try clear hb); (try clear hb2); (try clear hk); (try clear hi)))
         go_ret
         exact ⟨by first | rfl | (simp [errW_none, errW_some] <;> rfl) | (simp [*, errW_none, errW_some] <;> rfl), pxb HB⟩
       ·rw [if_neg c21] at H
        have c21b0 : (t506 == 0) = false := beq_eq_false_iff_ne.mpr c21
        have c21b1 : (t506 != 0) = true := bne_iff_ne.mpr c21
        obtain rfl := Option.some.inj H
        go_wp2_with (first | ((with_reducible refine gate_callee (f := 38) rfl ?_); refine goesL_ (some 30) rfl rfl Try.func38 (by kernel_rfl) rfl #[.string a0, .slice A1 l1.length c1, .slice A2 l2.length c2] rfl (by (try simp only [List.map_toArray, List.map_cons, List.map_nil]); first | done | rfl | (simp only [List.length_drop, List.length_take]; rfl)) ?_; (with_reducible refine (edit_Then.calls kj5 a0 _ _ l1 _ _ l2 t505 t506 _ ?side1 ?side2 ?side3 ?side4 A15.out).mono ?_); (case side1 => exact pxc HR1 HB); (case side2 => exact HC1.out); (case side3 => exact pxc HR2 HB); (case side4 => exact HC2.out); rintro e w45 ⟨v507, rfl, ho0, hb⟩; refine ⟨_, rfl, ?_⟩; have n0_ := Aside0.mk (Kd.R_lower ho0 (below_size (pxb HB))); have n1_ := pxs HB hb; clear HB; have HO508 := n0_; have HB := n1_; clear n0_ n1_; (try clear hb); (try clear hb2); (try clear hk); (try clear hi); (try clear ho0)) | ((with_reducible refine gate_callee (f := 32) rfl ?_); refine goesL_ (some 36) rfl rfl Try.func32 (by kernel_rfl) rfl #[.string a0, .slice A1 l1.length c1] rfl (by (try simp only [List.map_toArray, List.map_cons, List.map_nil]); first | done | rfl | (simp only [List.length_drop, List.length_take]; rfl)) ?_; (with_reducible refine (caulkerref03_Apply.calls kj5 a0 _ _ l1 t509 t510 _ ?side1 ?side2 A16.out).mono ?_); (case side1 => exact pxc HR1 HB); (case side2 => exact HC1.out); rintro e w46 ⟨rfl, hb⟩; refine ⟨_, rfl, ?_⟩; have n0_ := Aside0.mk (Kd.R_below (pxr HO508) hb); have n1_ := pxs HB hb; clear HO508; clear HB; have HO508 := n0_; have HB := n1_; clear n0_ n1_; (try clear hb); (try clear hb2); (try clear hk); (try clear hi)) | ((with_reducible refine gate_callee (f := 32) rfl ?_); refine goesL_ (some 52) rfl rfl Try.func32 (by kernel_rfl) rfl #[.string t509, .slice A2 l2.length c2] rfl (by (try simp only [List.map_toArray, List.map_cons, List.map_nil]); first | done | rfl | (simp only [List.length_drop, List.length_take]; rfl)) ?_; (with_reducible refine (caulkerref03_Apply.calls kj5 t509 _ _ l2 t511 t512 _ ?side1 ?side2 A18.out).mono ?_); (case side1 => exact pxc HR2 HB); (case side2 => exact HC2.out); rintro e w47 ⟨rfl, hb⟩; refine ⟨_, rfl, ?_⟩; have n0_ := Aside0.mk (Kd.R_below (pxr HO508) hb); have n1_ := pxs HB hb; clear HO508; clear HB; have HO508 := n0_; have HB := n1_; clear n0_ n1_; (try clear hb); (try clear hb2); (try clear hk); (try clear hi); obtain ⟨Ao48, co48, eo48⟩ := Kd.R_slice HO508.out; subst eo48) | ((with_reducible refine gate_callee (f := 32) rfl ?_); refine goesL_ (some 68) rfl rfl Try.func32 (by kernel_rfl) rfl #[.string a0, .slice Ao48 t505.length co48] rfl (by (try simp only [List.map_toArray, List.map_cons, List.map_nil]); first | done | rfl | (simp only [List.length_drop, List.length_take]; rfl)) ?_; (with_reducible refine (caulkerref03_Apply.calls kj5 a0 _ _ t505 t513 t514 _ ?side1 ?side2 A20.out).mono ?_); (case side1 => repeat (first | exact (Kd.R_reads' HO508.out).2.2 | (with_reducible refine Kd.C_alloc ?_ _) | (with_reducible refine Kd.C_drewN ?_ _) | (with_reducible refine Kd.C_drew ?_))); (case side2 => exact (Kd.R_reads' HO508.out).2.1); rintro e w49 ⟨rfl, hb⟩; refine ⟨_, rfl, ?_⟩; have n0_ := Aside0.mk (Kd.R_below (pxr HO508) hb); have n1_ := pxs HB hb; clear HO508; clear HB; have HO508 := n0_; have HB := n1_; clear n0_ n1_; (try clear hb); (try clear hb2); (try clear hk); (try clear hi)))
        go_ret
        exact ⟨by first | rfl | (simp [errW_none, errW_some] <;> rfl) | (simp [*, errW_none, errW_some] <;> rfl), pxb HB⟩
      ·rw [if_neg c19] at H
       have c19b0 : (t512 == 0) = false := beq_eq_false_iff_ne.mpr c19
       have c19b1 : (t512 != 0) = true := bne_iff_ne.mpr c19
       by_cases c50 : t506 = t512
       ·rw [if_pos c50] at H
        have c50b0 : (t506 == t512) = true := beq_iff_eq.mpr c50
        have c50b1 : (t506 != t512) = false := bne_eq_false_iff_eq.mpr c50
        clear c50
        obtain rfl := Option.some.inj H
        go_wp2_with (first | ((with_reducible refine gate_callee (f := 38) rfl ?_); refine goesL_ (some 30) rfl rfl Try.func38 (by kernel_rfl) rfl #[.string a0, .slice A1 l1.length c1, .slice A2 l2.length c2] rfl (by (try simp only [List.map_toArray, List.map_cons, List.map_nil]); first | done | rfl | (simp only [List.length_drop, List.length_take]; rfl)) ?_; (with_reducible refine (edit_Then.calls kj5 a0 _ _ l1 _ _ l2 t505 t506 _ ?side1 ?side2 ?side3 ?side4 A15.out).mono ?_); (case side1 => exact pxc HR1 HB); (case side2 => exact HC1.out); (case side3 => exact pxc HR2 HB); (case side4 => exact HC2.out); rintro e w51 ⟨v507, rfl, ho0, hb⟩; refine ⟨_, rfl, ?_⟩; have n0_ := Aside0.mk (Kd.R_lower ho0 (below_size (pxb HB))); have n1_ := pxs HB hb; clear HB; have HO508 := n0_; have HB := n1_; clear n0_ n1_; (try clear hb); (try clear hb2); (try clear hk); (try clear hi); (try clear ho0)) | ((with_reducible refine gate_callee (f := 32) rfl ?_); refine goesL_ (some 36) rfl rfl Try.func32 (by kernel_rfl) rfl #[.string a0, .slice A1 l1.length c1] rfl (by (try simp only [List.map_toArray, List.map_cons, List.map_nil]); first | done | rfl | (simp only [List.length_drop, List.length_take]; rfl)) ?_; (with_reducible refine (caulkerref03_Apply.calls kj5 a0 _ _ l1 t509 t510 _ ?side1 ?side2 A16.out).mono ?_); (case side1 => exact pxc HR1 HB); (case side2 => exact HC1.out); rintro e w52 ⟨rfl, hb⟩; refine ⟨_, rfl, ?_⟩; have n0_ := Aside0.mk (Kd.R_below (pxr HO508) hb); have n1_ := pxs HB hb; clear HO508; clear HB; have HO508 := n0_; have HB := n1_; clear n0_ n1_; (try clear hb); (try clear hb2); (try clear hk); (try clear hi)) | ((with_reducible refine gate_callee (f := 32) rfl ?_); refine goesL_ (some 52) rfl rfl Try.func32 (by kernel_rfl) rfl #[.string t509, .slice A2 l2.length c2] rfl (by (try simp only [List.map_toArray, List.map_cons, List.map_nil]); first | done | rfl | (simp only [List.length_drop, List.length_take]; rfl)) ?_; (with_reducible refine (caulkerref03_Apply.calls kj5 t509 _ _ l2 t511 t512 _ ?side1 ?side2 A18.out).mono ?_); (case side1 => exact pxc HR2 HB); (case side2 => exact HC2.out); rintro e w53 ⟨rfl, hb⟩; refine ⟨_, rfl, ?_⟩; have n0_ := Aside0.mk (Kd.R_below (pxr HO508) hb); have n1_ := pxs HB hb; clear HO508; clear HB; have HO508 := n0_; have HB := n1_; clear n0_ n1_; (try clear hb); (try clear hb2); (try clear hk); (try clear hi); obtain ⟨Ao54, co54, eo54⟩ := Kd.R_slice HO508.out; subst eo54))
        go_ret
        exact ⟨by first | rfl | (simp [errW_none, errW_some] <;> rfl) | (simp [*, errW_none, errW_some] <;> rfl), pxb HB⟩
       ·rw [if_neg c50] at H
        have c50b0 : (t506 == t512) = false := beq_eq_false_iff_ne.mpr c50
        have c50b1 : (t506 != t512) = true := bne_iff_ne.mpr c50
        obtain rfl := Option.some.inj H
        go_wp2_with (first | ((with_reducible refine gate_callee (f := 38) rfl ?_); refine goesL_ (some 30) rfl rfl Try.func38 (by kernel_rfl) rfl #[.string a0, .slice A1 l1.length c1, .slice A2 l2.length c2] rfl (by (try simp only [List.map_toArray, List.map_cons, List.map_nil]); first | done | rfl | (simp only [List.length_drop, List.length_take]; rfl)) ?_; (with_reducible refine (edit_Then.calls kj5 a0 _ _ l1 _ _ l2 t505 t506 _ ?side1 ?side2 ?side3 ?side4 A15.out).mono ?_); (case side1 => exact pxc HR1 HB); (case side2 => exact HC1.out); (case side3 => exact pxc HR2 HB); (case side4 => exact HC2.out); rintro e w55 ⟨v507, rfl, ho0, hb⟩; refine ⟨_, rfl, ?_⟩; have n0_ := Aside0.mk (Kd.R_lower ho0 (below_size (pxb HB))); have n1_ := pxs HB hb; clear HB; have HO508 := n0_; have HB := n1_; clear n0_ n1_; (try clear hb); (try clear hb2); (try clear hk); (try clear hi); (try clear ho0)) | ((with_reducible refine gate_callee (f := 32) rfl ?_); refine goesL_ (some 36) rfl rfl Try.func32 (by kernel_rfl) rfl #[.string a0, .slice A1 l1.length c1] rfl (by (try simp only [List.map_toArray, List.map_cons, List.map_nil]); first | done | rfl | (simp only [List.length_drop, List.length_take]; rfl)) ?_; (with_reducible refine (caulkerref03_Apply.calls kj5 a0 _ _ l1 t509 t510 _ ?side1 ?side2 A16.out).mono ?_); (case side1 => exact pxc HR1 HB); (case side2 => exact HC1.out); rintro e w56 ⟨rfl, hb⟩; refine ⟨_, rfl, ?_⟩; have n0_ := Aside0.mk (Kd.R_below (pxr HO508) hb); have n1_ := pxs HB hb; clear HO508; clear HB; have HO508 := n0_; have HB := n1_; clear n0_ n1_; (try clear hb); (try clear hb2); (try clear hk); (try clear hi)) | ((with_reducible refine gate_callee (f := 32) rfl ?_); refine goesL_ (some 52) rfl rfl Try.func32 (by kernel_rfl) rfl #[.string t509, .slice A2 l2.length c2] rfl (by (try simp only [List.map_toArray, List.map_cons, List.map_nil]); first | done | rfl | (simp only [List.length_drop, List.length_take]; rfl)) ?_; (with_reducible refine (caulkerref03_Apply.calls kj5 t509 _ _ l2 t511 t512 _ ?side1 ?side2 A18.out).mono ?_); (case side1 => exact pxc HR2 HB); (case side2 => exact HC2.out); rintro e w57 ⟨rfl, hb⟩; refine ⟨_, rfl, ?_⟩; have n0_ := Aside0.mk (Kd.R_below (pxr HO508) hb); have n1_ := pxs HB hb; clear HO508; clear HB; have HO508 := n0_; have HB := n1_; clear n0_ n1_; (try clear hb); (try clear hb2); (try clear hk); (try clear hi)))
        go_ret
        exact ⟨by first | rfl | (simp [errW_none, errW_some] <;> rfl) | (simp [*, errW_none, errW_some] <;> rfl), pxb HB⟩
     ·rw [if_neg c17] at H
      have c17b0 : (t510 == 0) = false := beq_eq_false_iff_ne.mpr c17
      have c17b1 : (t510 != 0) = true := bne_iff_ne.mpr c17
      by_cases c58 : t506 = t510
      ·rw [if_pos c58] at H
       have c58b0 : (t506 == t510) = true := beq_iff_eq.mpr c58
       have c58b1 : (t506 != t510) = false := bne_eq_false_iff_eq.mpr c58
       clear c58
       obtain rfl := Option.some.inj H
       go_wp2_with (first | ((with_reducible refine gate_callee (f := 38) rfl ?_); refine goesL_ (some 30) rfl rfl Try.func38 (by kernel_rfl) rfl #[.string a0, .slice A1 l1.length c1, .slice A2 l2.length c2] rfl (by (try simp only [List.map_toArray, List.map_cons, List.map_nil]); first | done | rfl | (simp only [List.length_drop, List.length_take]; rfl)) ?_; (with_reducible refine (edit_Then.calls kj5 a0 _ _ l1 _ _ l2 t505 t506 _ ?side1 ?side2 ?side3 ?side4 A15.out).mono ?_); (case side1 => exact pxc HR1 HB); (case side2 => exact HC1.out); (case side3 => exact pxc HR2 HB); (case side4 => exact HC2.out); rintro e w59 ⟨v507, rfl, ho0, hb⟩; refine ⟨_, rfl, ?_⟩; have n0_ := Aside0.mk (Kd.R_lower ho0 (below_size (pxb HB))); have n1_ := pxs HB hb; clear HB; have HO508 := n0_; have HB := n1_; clear n0_ n1_; (try clear hb); (try clear hb2); (try clear hk); (try clear hi); (try clear ho0)) | ((with_reducible refine gate_callee (f := 32) rfl ?_); refine goesL_ (some 36) rfl rfl Try.func32 (by kernel_rfl) rfl #[.string a0, .slice A1 l1.length c1] rfl (by (try simp only [List.map_toArray, List.map_cons, List.map_nil]); first | done | rfl | (simp only [List.length_drop, List.length_take]; rfl)) ?_; (with_reducible refine (caulkerref03_Apply.calls kj5 a0 _ _ l1 t509 t510 _ ?side1 ?side2 A16.out).mono ?_); (case side1 => exact pxc HR1 HB); (case side2 => exact HC1.out); rintro e w60 ⟨rfl, hb⟩; refine ⟨_, rfl, ?_⟩; have n0_ := Aside0.mk (Kd.R_below (pxr HO508) hb); have n1_ := pxs HB hb; clear HO508; clear HB; have HO508 := n0_; have HB := n1_; clear n0_ n1_; (try clear hb); (try clear hb2); (try clear hk); (try clear hi); obtain ⟨Ao61, co61, eo61⟩ := Kd.R_slice HO508.out; subst eo61))
       go_ret
       exact ⟨by first | rfl | (simp [errW_none, errW_some] <;> rfl) | (simp [*, errW_none, errW_some] <;> rfl), pxb HB⟩
      ·rw [if_neg c58] at H
       have c58b0 : (t506 == t510) = false := beq_eq_false_iff_ne.mpr c58
       have c58b1 : (t506 != t510) = true := bne_iff_ne.mpr c58
       obtain rfl := Option.some.inj H
       go_wp2_with (first | ((with_reducible refine gate_callee (f := 38) rfl ?_); refine goesL_ (some 30) rfl rfl Try.func38 (by kernel_rfl) rfl #[.string a0, .slice A1 l1.length c1, .slice A2 l2.length c2] rfl (by (try simp only [List.map_toArray, List.map_cons, List.map_nil]); first | done | rfl | (simp only [List.length_drop, List.length_take]; rfl)) ?_; (with_reducible refine (edit_Then.calls kj5 a0 _ _ l1 _ _ l2 t505 t506 _ ?side1 ?side2 ?side3 ?side4 A15.out).mono ?_); (case side1 => exact pxc HR1 HB); (case side2 => exact HC1.out); (case side3 => exact pxc HR2 HB); (case side4 => exact HC2.out); rintro e w62 ⟨v507, rfl, ho0, hb⟩; refine ⟨_, rfl, ?_⟩; have n0_ := Aside0.mk (Kd.R_lower ho0 (below_size (pxb HB))); have n1_ := pxs HB hb; clear HB; have HO508 := n0_; have HB := n1_; clear n0_ n1_; (try clear hb); (try clear hb2); (try clear hk); (try clear hi); (try clear ho0)) | ((with_reducible refine gate_callee (f := 32) rfl ?_); refine goesL_ (some 36) rfl rfl Try.func32 (by kernel_rfl) rfl #[.string a0, .slice A1 l1.length c1] rfl (by (try simp only [List.map_toArray, List.map_cons, List.map_nil]); first | done | rfl | (simp only [List.length_drop, List.length_take]; rfl)) ?_; (with_reducible refine (caulkerref03_Apply.calls kj5 a0 _ _ l1 t509 t510 _ ?side1 ?side2 A16.out).mono ?_); (case side1 => exact pxc HR1 HB); (case side2 => exact HC1.out); rintro e w63 ⟨rfl, hb⟩; refine ⟨_, rfl, ?_⟩; have n0_ := Aside0.mk (Kd.R_below (pxr HO508) hb); have n1_ := pxs HB hb; clear HO508; clear HB; have HO508 := n0_; have HB := n1_; clear n0_ n1_; (try clear hb); (try clear hb2); (try clear hk); (try clear hi)))
       go_ret
       exact ⟨by first | rfl | (simp [errW_none, errW_some] <;> rfl) | (simp [*, errW_none, errW_some] <;> rfl), pxb HB⟩
 ·replace c5 := Bool.eq_false_iff.mpr c5
  subst c5
  have H1 : (some false) = some r := by rw [if_neg (show ¬ (false = true) by decide)] at H; exact H
  clear H
  have H := H1
  clear H1
  obtain rfl := Option.some.inj H
  go_enter Try.func13, Try.ntmps13
  go_wp2_with (first | ((with_reducible refine gate_callee (f := 29) rfl ?_); refine goesL_ (some 14) rfl rfl Try.func29 (by kernel_rfl) rfl #[] rfl (by (try simp only [List.map_toArray, List.map_cons, List.map_nil]); first | done | rfl | (simp only [List.length_drop, List.length_take]; rfl)) ?_; (with_reducible refine (caulkerlaw03_edits.calls k  false _ A4.out).mono ?_); rintro e w64 ⟨rfl, hb⟩; refine ⟨_, rfl, ?_⟩; have n0_ := pxs HB hb; clear HB; have HB := n0_; clear n0_; (try clear hb); (try clear hb2); (try clear hk); (try clear hi)))
  go_ret
  exact ⟨by first | rfl | (simp [errW_none, errW_some] <;> rfl) | (simp [*, errW_none, errW_some] <;> rfl), pxb HB⟩

/-- THE ONE PURE STATEMENT of caulkerlaw03_EditThen. -/
def caulkerlaw03_EditThen.Pure : Prop := ∀ (a0 : ByteArray) (l1 : List (S60)) (l2 : List (S60)), a0.size ≤ 140737488351232 → l1.length ≤ 9223372036854775807 → l1.length * 32 ≤ 140737488351232 → (∀ y ∈ l1, good60 y) → l2.length ≤ 9223372036854775807 → l2.length * 32 ≤ 140737488351232 → (∀ y ∈ l2, good60 y) → ∃ k, caulkerlaw03_EditThen.f k a0 l1 l2 = some true

end Go.Proofs.Ytfnemjejfccecaa.X
