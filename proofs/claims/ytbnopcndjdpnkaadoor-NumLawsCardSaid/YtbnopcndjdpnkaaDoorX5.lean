/- What the program's functions answer, as Lean functions, and that each call does just that; no condition. Written by a program (px.py) out of the translation. -/
import Derived.Test.YtbnopcndjdpnkaaDoorX0
import Derived.Test.YtbnopcndjdpnkaaDoorX19
import Derived.Test.YtbnopcndjdpnkaaDoorM23
import Derived.Test.YtbnopcndjdpnkaaDoorX10
import Derived.Test.YtbnopcndjdpnkaaDoorX20
import Derived.Test.YtbnopcndjdpnkaaDoorX17
import Derived.Test.YtbnopcndjdpnkaaDoorX18
import Derived.Test.YtbnopcndjdpnkaaDoorLexW
namespace Go.Proofs.YtbnopcndjdpnkaaDoor.X
open Go.RowKit Go.Proofs.YtbnopcndjdpnkaaDoorW.PrintWords Go.Proofs.YtbnopcndjdpnkaaDoorW.PrintLast Go.Proofs.YtbnopcndjdpnkaaDoorW.PrintMore
attribute [local go_sem] max2_int min2_int max_two min_two max_three min_three max_four min_four   -- for this text's walks alone
set_option linter.unusedVariables false
set_option linter.unusedSimpArgs false

/-! ### caulkerlaw05_NumTurns: function 5 -/
mutual
def caulkerlaw05_NumTurns.j0 : Nat → Int → Int → Int → Bool → Option (Bool)
 | 0, _, _, _, _ => none
 | k + 1, x0, x1, x6, x22 => if x22 = true then (none) else (if x1 ≥ (-9007199254740992) then (if x1 ≤ 9007199254740992 then ((num_ToInt.f x6).bind fun t180 => (caulkerlaw05_NumTurns.j1 k x0 (t180 != x1))) else (caulkerlaw05_NumTurns.j1 k x0 false)) else (caulkerlaw05_NumTurns.j1 k x0 false))
def caulkerlaw05_NumTurns.j1 : Nat → Int → Bool → Option (Bool)
 | 0, _, _ => none
 | k + 1, x0, x34 => if x34 = true then (none) else ((num_Norm.f x0).bind fun t181 => (if t181 = x0 then ((caulkerref05_None.f x0).bind fun t182 => (if t182 = true then ((caulkerref05_None.f x0).bind fun t183 => (if t183 = true then ((num_Norm.f x0).bind fun t184 => (some (t184 == 9221120237041090561))) else (none))) else (some true))) else ((caulkerref05_None.f x0).bind fun t185 => (if t185 = true then ((num_Norm.f x0).bind fun t186 => (some (t186 == 9221120237041090561))) else (none)))))
end
def caulkerlaw05_NumTurns.f (k : Nat) (a0 : Int) (a1 : Int) : Option (Bool) := (caulkerlaw05_reckons.f k).bind fun t175 => (if t175 = true then ((num_ToInt.f a0).bind fun t176 => ((num_ToFloat.f a1).bind fun t177 => ((caulkerref05_ToInt.f k a0).bind fun t178 => (if t176 = t178 then ((caulkerref05_ToFloat.f k a1).bind fun t179 => (caulkerlaw05_NumTurns.j0 k a0 a1 t177 (t177 != t179))) else (caulkerlaw05_NumTurns.j0 k a0 a1 t177 true))))) else (none))
theorem caulkerlaw05_NumTurns.mono_l : ∀ k, (∀ y0 y1 y2 y3, LeO (caulkerlaw05_NumTurns.j0 k y0 y1 y2 y3) (caulkerlaw05_NumTurns.j0 (k + 1) y0 y1 y2 y3)) ∧ (∀ y0 y1, LeO (caulkerlaw05_NumTurns.j1 k y0 y1) (caulkerlaw05_NumTurns.j1 (k + 1) y0 y1))
 | 0 => ⟨fun _ _ _ _ r h => by simp [caulkerlaw05_NumTurns.j0] at h, fun _ _ r h => by simp [caulkerlaw05_NumTurns.j1] at h⟩
 | k + 1 => by
  obtain ⟨ih0, ih1⟩ := caulkerlaw05_NumTurns.mono_l k
  refine ⟨?_, ?_⟩
  ·intro y0 y1 y2 y3
   unfold caulkerlaw05_NumTurns.j0
   repeat' first
   | (with_reducible exact ih0 _ _ _ _)
   | (with_reducible exact ih1 _ _)
   | (with_reducible exact caulkerlaw05_reckons.mono _)
   | (with_reducible exact caulkerref05_ToFloat.mono _ _)
   | (with_reducible exact caulkerref05_ToInt.mono _ _)
   | (with_reducible exact LeO.refl _)
   | (with_reducible exact LeO.none _)
   | (with_reducible refine LeO.ite ?_ ?_)
   | (with_reducible refine LeO.bind ?_ (fun _ => ?_))
   | exact ih0 _ _ _ _
   | exact ih1 _ _
   | exact caulkerlaw05_reckons.mono _
   | exact caulkerref05_ToFloat.mono _ _
   | exact caulkerref05_ToInt.mono _ _
   | exact LeO.none _
   | refine LeO.ite ?_ ?_
   | refine LeO.bind ?_ (fun _ => ?_)
  ·intro y0 y1
   unfold caulkerlaw05_NumTurns.j1
   repeat' first
   | (with_reducible exact ih0 _ _ _ _)
   | (with_reducible exact ih1 _ _)
   | (with_reducible exact caulkerlaw05_reckons.mono _)
   | (with_reducible exact caulkerref05_ToFloat.mono _ _)
   | (with_reducible exact caulkerref05_ToInt.mono _ _)
   | (with_reducible exact LeO.refl _)
   | (with_reducible exact LeO.none _)
   | (with_reducible refine LeO.ite ?_ ?_)
   | (with_reducible refine LeO.bind ?_ (fun _ => ?_))
   | exact ih0 _ _ _ _
   | exact ih1 _ _
   | exact caulkerlaw05_reckons.mono _
   | exact caulkerref05_ToFloat.mono _ _
   | exact caulkerref05_ToInt.mono _ _
   | exact LeO.none _
   | refine LeO.ite ?_ ?_
   | refine LeO.bind ?_ (fun _ => ?_)
theorem caulkerlaw05_NumTurns.mono : ∀ a0 a1 k, LeO (caulkerlaw05_NumTurns.f k a0 a1) (caulkerlaw05_NumTurns.f (k + 1) a0 a1) := by
 intro a0 a1 k
 obtain ⟨ih0, ih1⟩ := caulkerlaw05_NumTurns.mono_l k
 unfold caulkerlaw05_NumTurns.f
 repeat' first
   | (with_reducible exact ih0 _ _ _ _)
   | (with_reducible exact ih1 _ _)
   | (with_reducible exact caulkerlaw05_reckons.mono _)
   | (with_reducible exact caulkerref05_ToFloat.mono _ _)
   | (with_reducible exact caulkerref05_ToInt.mono _ _)
   | (with_reducible exact LeO.refl _)
   | (with_reducible exact LeO.none _)
   | (with_reducible refine LeO.ite ?_ ?_)
   | (with_reducible refine LeO.bind ?_ (fun _ => ?_))
   | exact ih0 _ _ _ _
   | exact ih1 _ _
   | exact caulkerlaw05_reckons.mono _
   | exact caulkerref05_ToFloat.mono _ _
   | exact caulkerref05_ToInt.mono _ _
   | exact LeO.none _
   | refine LeO.ite ?_ ?_
   | refine LeO.bind ?_ (fun _ => ?_)
set_option maxHeartbeats 8000000 in
set_option maxRecDepth 100000 in
theorem caulkerlaw05_NumTurns.calls (k : Nat) (a0 : Int) (a1 : Int) (r : Bool) (w : World) (h : caulkerlaw05_NumTurns.f k a0 a1 = some r) (hgv : LexW.GV w) :
  Calls Tryd.prog 5 #[.int .u64 a0, .int .i64 a1] w fun e w' => e = .returned (.bool r) ∧ Below w.heap.size w w' := by
 have HGV := Aside0.mk hgv
 clear hgv
 have HB := Aside0.mk (Below.refl w.heap.size w)
 have H : ((caulkerlaw05_reckons.f k).bind fun t175 => (if t175 = true then ((num_ToInt.f a0).bind fun t176 => ((num_ToFloat.f a1).bind fun t177 => ((caulkerref05_ToInt.f k a0).bind fun t178 => (if t176 = t178 then ((caulkerref05_ToFloat.f k a1).bind fun t179 => (caulkerlaw05_NumTurns.j0 k a0 a1 t177 (t177 != t179))) else (caulkerlaw05_NumTurns.j0 k a0 a1 t177 true))))) else (none))) = some r := h
 clear h
 replace H := Option.bind_eq_some_iff.mp H
 obtain ⟨t175, A30, H⟩ := H
 replace H : (if t175 = true then ((num_ToInt.f a0).bind fun t176 => ((num_ToFloat.f a1).bind fun t177 => ((caulkerref05_ToInt.f k a0).bind fun t178 => (if t176 = t178 then ((caulkerref05_ToFloat.f k a1).bind fun t179 => (caulkerlaw05_NumTurns.j0 k a0 a1 t177 (t177 != t179))) else (caulkerlaw05_NumTurns.j0 k a0 a1 t177 true))))) else (none)) = some r := H
 have A3 := Aside0.mk A30
 clear A30
 by_cases c4 : t175 = true
 ·subst c4
  have H1 : ((num_ToInt.f a0).bind fun t176 => ((num_ToFloat.f a1).bind fun t177 => ((caulkerref05_ToInt.f k a0).bind fun t178 => (if t176 = t178 then ((caulkerref05_ToFloat.f k a1).bind fun t179 => (caulkerlaw05_NumTurns.j0 k a0 a1 t177 (t177 != t179))) else (caulkerlaw05_NumTurns.j0 k a0 a1 t177 true))))) = some r := by rw [if_pos rfl] at H; exact H
  clear H
  have H := H1
  clear H1
  replace H := Option.bind_eq_some_iff.mp H
  obtain ⟨t176, A50, H⟩ := H
  replace H : ((num_ToFloat.f a1).bind fun t177 => ((caulkerref05_ToInt.f k a0).bind fun t178 => (if t176 = t178 then ((caulkerref05_ToFloat.f k a1).bind fun t179 => (caulkerlaw05_NumTurns.j0 k a0 a1 t177 (t177 != t179))) else (caulkerlaw05_NumTurns.j0 k a0 a1 t177 true)))) = some r := H
  have A5 := Aside0.mk A50
  clear A50
  replace H := Option.bind_eq_some_iff.mp H
  obtain ⟨t177, A60, H⟩ := H
  replace H : ((caulkerref05_ToInt.f k a0).bind fun t178 => (if t176 = t178 then ((caulkerref05_ToFloat.f k a1).bind fun t179 => (caulkerlaw05_NumTurns.j0 k a0 a1 t177 (t177 != t179))) else (caulkerlaw05_NumTurns.j0 k a0 a1 t177 true))) = some r := H
  have A6 := Aside0.mk A60
  clear A60
  have HC7 := Aside0.mk H
  clear H
  go_enter Tryd.func5, Tryd.ntmps5
  go_upto_region 4 with (first | ((with_reducible refine gate_callee (f := 10) rfl ?_); refine goesL_ (some 7) rfl rfl Tryd.func10 (by kernel_rfl) rfl #[] rfl (by (try simp only [List.map_toArray, List.map_cons, List.map_nil]); first | done | rfl | (simp only [List.length_drop, List.length_take]; rfl)) ?_; (with_reducible refine (caulkerlaw05_reckons.calls k  true _ A3.out ?gv).mono ?_); (case gv => first | exact LexW.GV.later HGV.out (pxb HB) | (repeat (first | exact HGV.out | apply LexW.GV.drewN))); rintro e w8 ⟨rfl, hb⟩; refine ⟨_, rfl, ?_⟩; have n0_ := pxs HB hb; clear HB; have HB := n0_; clear n0_; (try clear hb); (try clear hb2); (try clear hk); (try clear hi)) | ((with_reducible refine gate_callee (f := 15) rfl ?_); refine goesL_ (some 10) rfl rfl Tryd.func15 (by kernel_rfl) rfl #[.int .u64 a0] rfl (by (try simp only [List.map_toArray, List.map_cons, List.map_nil]); first | done | rfl | (simp only [List.length_drop, List.length_take]; rfl)) ?_; (with_reducible refine (num_ToInt.calls a0 t176 _ A5.out).mono ?_); rintro e w' ⟨rfl, ⟨nd, rfl⟩⟩; refine ⟨_, rfl, ?_⟩) | ((with_reducible refine gate_callee (f := 16) rfl ?_); refine goesL_ (some 12) rfl rfl Tryd.func16 (by kernel_rfl) rfl #[.int .i64 a1] rfl (by (try simp only [List.map_toArray, List.map_cons, List.map_nil]); first | done | rfl | (simp only [List.length_drop, List.length_take]; rfl)) ?_; (with_reducible refine (num_ToFloat.calls a1 t177 _ A6.out).mono ?_); rintro e w' ⟨rfl, ⟨nd, rfl⟩⟩; refine ⟨_, rfl, ?_⟩))
  (try simp only [Act.put, List.setIfInBounds_toArray, List.set_cons_zero, List.set_cons_succ])
  go_cut [22] (fun v22 wc => ∃ (kq : Nat) (x22_6 : Bool), v22 = .bool x22_6 ∧ Aside0 (caulkerlaw05_NumTurns.j0 kq a0 a1 t177 x22_6 = some r) ∧ Aside0 (kq ≤ k) ∧ Aside0 (Below w.heap.size w wc))
  case first =>
   have H := HC7.out
   clear HC7
   replace H := Option.bind_eq_some_iff.mp H
   obtain ⟨t178, A90, H⟩ := H
   replace H : (if t176 = t178 then ((caulkerref05_ToFloat.f k a1).bind fun t179 => (caulkerlaw05_NumTurns.j0 k a0 a1 t177 (t177 != t179))) else (caulkerlaw05_NumTurns.j0 k a0 a1 t177 true)) = some r := H
   have A9 := Aside0.mk A90
   clear A90
   by_cases c10 : t176 = t178
   ·rw [if_pos c10] at H
    have c10b0 : (t176 == t178) = true := beq_iff_eq.mpr c10
    have c10b1 : (t176 != t178) = false := bne_eq_false_iff_eq.mpr c10
    clear c10
    (first | rw [c10b0] | (simp only [i64_w, i32_w]; rw [c10b0]) | skip)
    replace H := Option.bind_eq_some_iff.mp H
    obtain ⟨t179, A110, H⟩ := H
    replace H : (caulkerlaw05_NumTurns.j0 k a0 a1 t177 (t177 != t179)) = some r := H
    have A11 := Aside0.mk A110
    clear A110
    have H' := Aside0.mk H
    clear H
    go_wp2_with (first | ((with_reducible refine gate_callee (f := 17) rfl ?_); refine goesL_ (some 15) rfl rfl Tryd.func17 (by kernel_rfl) rfl #[.int .u64 a0] rfl (by (try simp only [List.map_toArray, List.map_cons, List.map_nil]); first | done | rfl | (simp only [List.length_drop, List.length_take]; rfl)) ?_; (with_reducible refine (caulkerref05_ToInt.calls k a0 t178 _ A9.out).mono ?_); rintro e w' ⟨rfl, ⟨nd, rfl⟩⟩; refine ⟨_, rfl, ?_⟩) | (go_at_call 18; (with_reducible refine (caulkerref05_ToFloat.calls k a1 t179 _ A11.out).mono ?_); rintro e w' ⟨rfl, ⟨nd, rfl⟩⟩))
    go_meet
    case rel => exact ⟨_, ((t177 != t179)), (by first | rfl | (simp; done) | (simp [*]; done)), H', ⟨by first | omega | exact Nat.le_refl _⟩, ⟨pxb HB⟩⟩
   ·rw [if_neg c10] at H
    have c10b0 : (t176 == t178) = false := beq_eq_false_iff_ne.mpr c10
    have c10b1 : (t176 != t178) = true := bne_iff_ne.mpr c10
    (first | rw [c10b0] | (simp only [i64_w, i32_w]; rw [c10b0]) | skip)
    have H' := Aside0.mk H
    clear H
    go_wp2_with (first | ((with_reducible refine gate_callee (f := 17) rfl ?_); refine goesL_ (some 15) rfl rfl Tryd.func17 (by kernel_rfl) rfl #[.int .u64 a0] rfl (by (try simp only [List.map_toArray, List.map_cons, List.map_nil]); first | done | rfl | (simp only [List.length_drop, List.length_take]; rfl)) ?_; (with_reducible refine (caulkerref05_ToInt.calls k a0 t178 _ A9.out).mono ?_); rintro e w' ⟨rfl, ⟨nd, rfl⟩⟩; refine ⟨_, rfl, ?_⟩))
    go_meet
    case rel => exact ⟨_, (true), (by first | rfl | (simp; done) | (simp [*]; done)), H', ⟨by first | omega | exact Nat.le_refl _⟩, ⟨pxb HB⟩⟩
  case rest =>
   clear HC7
   try clear c1
   try clear p2
   try clear c4
   try clear c5
   try clear c10
   try clear c10b0
   try clear c10b1
   obtain ⟨kq, x22_6, rfl, HA, HJ6, HB⟩ := hcut
   cases kq with
   | zero => exact absurd HA.out (by simp [caulkerlaw05_NumTurns.j0])
   | succ kj6 =>
    have H := HA.out
    clear HA
    simp only [caulkerlaw05_NumTurns.j0] at H
    by_cases c12 : x22_6 = true
    ·subst c12
     have H1 : (none) = some r := by rw [if_pos rfl] at H; exact H
     clear H
     have H := H1
     clear H1
     exact absurd H (by simp)
    ·replace c12 := Bool.eq_false_iff.mpr c12
     subst c12
     have H1 : (if a1 ≥ (-9007199254740992) then (if a1 ≤ 9007199254740992 then ((num_ToInt.f t177).bind fun t180 => (caulkerlaw05_NumTurns.j1 kj6 a0 (t180 != a1))) else (caulkerlaw05_NumTurns.j1 kj6 a0 false)) else (caulkerlaw05_NumTurns.j1 kj6 a0 false)) = some r := by rw [if_neg (show ¬ (false = true) by decide)] at H; exact H
     clear H
     have H := H1
     clear H1
     have HC13 := Aside0.mk H
     clear H
     go_upto_region 6 with (fail)
     go_cut [34] (fun v34 wc => ∃ (kq : Nat) (x34_12 : Bool), v34 = .bool x34_12 ∧ Aside0 (caulkerlaw05_NumTurns.j1 kq a0 x34_12 = some r) ∧ Aside0 (kq ≤ kj6) ∧ Aside0 (Below w.heap.size w wc))
     case first =>
      have H := HC13.out
      clear HC13
      by_cases c14 : a1 ≥ (-9007199254740992)
      ·rw [if_pos c14] at H
       have c14b0 : decide ((-9007199254740992) ≤ a1) = true := decide_eq_true c14
       clear c14
       (first | rw [c14b0] | (simp only [i64_w, i32_w]; rw [c14b0]) | skip)
       by_cases c15 : a1 ≤ 9007199254740992
       ·rw [if_pos c15] at H
        have c15b0 : decide (a1 ≤ 9007199254740992) = true := decide_eq_true c15
        clear c15
        replace H := Option.bind_eq_some_iff.mp H
        obtain ⟨t180, A160, H⟩ := H
        replace H : (caulkerlaw05_NumTurns.j1 kj6 a0 (t180 != a1)) = some r := H
        have A16 := Aside0.mk A160
        clear A160
        have H' := Aside0.mk H
        clear H
        go_wp2_with (first | (go_at_call 15; (with_reducible refine (num_ToInt.calls t177 t180 _ A16.out).mono ?_); rintro e w' ⟨rfl, ⟨nd, rfl⟩⟩))
        go_meet
        case rel => exact ⟨_, ((t180 != a1)), (by first | rfl | (simp; done) | (simp [*]; done)), H', ⟨by have := HJ6.out; first | omega | exact Nat.le_refl _⟩, ⟨pxb HB⟩⟩
       ·rw [if_neg c15] at H
        have c15b0 : decide (a1 ≤ 9007199254740992) = false := decide_eq_false c15
        clear c15
        have H' := Aside0.mk H
        clear H
        go_wp2
        go_meet
        case rel => exact ⟨_, (false), (by first | rfl | (simp; done) | (simp [*]; done)), H', ⟨by have := HJ6.out; first | omega | exact Nat.le_refl _⟩, ⟨pxb HB⟩⟩
      ·rw [if_neg c14] at H
       have c14b0 : decide ((-9007199254740992) ≤ a1) = false := decide_eq_false c14
       clear c14
       (first | rw [c14b0] | (simp only [i64_w, i32_w]; rw [c14b0]) | skip)
       have H' := Aside0.mk H
       clear H
       go_wp2
       go_meet
       case rel => exact ⟨_, (false), (by first | rfl | (simp; done) | (simp [*]; done)), H', ⟨by have := HJ6.out; first | omega | exact Nat.le_refl _⟩, ⟨pxb HB⟩⟩
     case rest =>
      clear HC13
      try clear c1
      try clear p2
      try clear c4
      try clear c5
      try clear c10
      try clear c10b0
      try clear c10b1
      try clear c12
      try clear c14
      try clear c14b0
      try clear c15
      try clear c15b0
      try clear c16
      try clear p2
      obtain ⟨kq, x34_12, rfl, HA, HJ12, HB⟩ := hcut
      cases kq with
      | zero => exact absurd HA.out (by simp [caulkerlaw05_NumTurns.j1])
      | succ kj12 =>
       have H := HA.out
       clear HA
       simp only [caulkerlaw05_NumTurns.j1] at H
       by_cases c17 : x34_12 = true
       ·subst c17
        have H1 : (none) = some r := by rw [if_pos rfl] at H; exact H
        clear H
        have H := H1
        clear H1
        exact absurd H (by simp)
       ·replace c17 := Bool.eq_false_iff.mpr c17
        subst c17
        have H1 : ((num_Norm.f a0).bind fun t181 => (if t181 = a0 then ((caulkerref05_None.f a0).bind fun t182 => (if t182 = true then ((caulkerref05_None.f a0).bind fun t183 => (if t183 = true then ((num_Norm.f a0).bind fun t184 => (some (t184 == 9221120237041090561))) else (none))) else (some true))) else ((caulkerref05_None.f a0).bind fun t185 => (if t185 = true then ((num_Norm.f a0).bind fun t186 => (some (t186 == 9221120237041090561))) else (none))))) = some r := by rw [if_neg (show ¬ (false = true) by decide)] at H; exact H
        clear H
        have H := H1
        clear H1
        replace H := Option.bind_eq_some_iff.mp H
        obtain ⟨t181, A180, H⟩ := H
        replace H : (if t181 = a0 then ((caulkerref05_None.f a0).bind fun t182 => (if t182 = true then ((caulkerref05_None.f a0).bind fun t183 => (if t183 = true then ((num_Norm.f a0).bind fun t184 => (some (t184 == 9221120237041090561))) else (none))) else (some true))) else ((caulkerref05_None.f a0).bind fun t185 => (if t185 = true then ((num_Norm.f a0).bind fun t186 => (some (t186 == 9221120237041090561))) else (none)))) = some r := H
        have A18 := Aside0.mk A180
        clear A180
        by_cases c19 : t181 = a0
        ·rw [if_pos c19] at H
         have c19b0 : (t181 == a0) = true := beq_iff_eq.mpr c19
         have c19b1 : (t181 != a0) = false := bne_eq_false_iff_eq.mpr c19
         clear c19
         replace H := Option.bind_eq_some_iff.mp H
         obtain ⟨t182, A200, H⟩ := H
         replace H : (if t182 = true then ((caulkerref05_None.f a0).bind fun t183 => (if t183 = true then ((num_Norm.f a0).bind fun t184 => (some (t184 == 9221120237041090561))) else (none))) else (some true)) = some r := H
         have A20 := Aside0.mk A200
         clear A200
         by_cases c21 : t182 = true
         ·subst c21
          have H1 : ((caulkerref05_None.f a0).bind fun t183 => (if t183 = true then ((num_Norm.f a0).bind fun t184 => (some (t184 == 9221120237041090561))) else (none))) = some r := by rw [if_pos rfl] at H; exact H
          clear H
          have H := H1
          clear H1
          replace H := Option.bind_eq_some_iff.mp H
          obtain ⟨t183, A220, H⟩ := H
          replace H : (if t183 = true then ((num_Norm.f a0).bind fun t184 => (some (t184 == 9221120237041090561))) else (none)) = some r := H
          have A22 := Aside0.mk A220
          clear A220
          by_cases c23 : t183 = true
          ·subst c23
           have H1 : ((num_Norm.f a0).bind fun t184 => (some (t184 == 9221120237041090561))) = some r := by rw [if_pos rfl] at H; exact H
           clear H
           have H := H1
           clear H1
           replace H := Option.bind_eq_some_iff.mp H
           obtain ⟨t184, A240, H⟩ := H
           replace H : (some (t184 == 9221120237041090561)) = some r := H
           have A24 := Aside0.mk A240
           clear A240
           obtain rfl := Option.some.inj H
           go_wp2_with (first | ((with_reducible refine gate_callee (f := 19) rfl ?_); refine goesL_ (some 36) rfl rfl Tryd.func19 (by kernel_rfl) rfl #[.int .u64 a0] rfl (by (try simp only [List.map_toArray, List.map_cons, List.map_nil]); first | done | rfl | (simp only [List.length_drop, List.length_take]; rfl)) ?_; (with_reducible refine (num_Norm.calls a0 t181 _ A18.out).mono ?_); rintro e w' ⟨rfl, ⟨nd, rfl⟩⟩; refine ⟨_, rfl, ?_⟩) | (go_at_call 20; (with_reducible refine (caulkerref05_None.calls a0 true _ A20.out).mono ?_); rintro e w' ⟨rfl, ⟨nd, rfl⟩⟩) | (go_at_call 20; (with_reducible refine (caulkerref05_None.calls a0 true _ A22.out).mono ?_); rintro e w' ⟨rfl, ⟨nd, rfl⟩⟩) | (go_at_call 19; (with_reducible refine (num_Norm.calls a0 t184 _ A24.out).mono ?_); rintro e w' ⟨rfl, ⟨nd, rfl⟩⟩))
           go_ret
           exact ⟨by first | rfl | (simp [errW_none, errW_some] <;> rfl) | (simp [*, errW_none, errW_some] <;> rfl), pxb HB⟩
          ·replace c23 := Bool.eq_false_iff.mpr c23
           subst c23
           have H1 : (none) = some r := by rw [if_neg (show ¬ (false = true) by decide)] at H; exact H
           clear H
           have H := H1
           clear H1
           exact absurd H (by simp)
         ·replace c21 := Bool.eq_false_iff.mpr c21
          subst c21
          have H1 : (some true) = some r := by rw [if_neg (show ¬ (false = true) by decide)] at H; exact H
          clear H
          have H := H1
          clear H1
          obtain rfl := Option.some.inj H
          go_wp2_with (first | ((with_reducible refine gate_callee (f := 19) rfl ?_); refine goesL_ (some 36) rfl rfl Tryd.func19 (by kernel_rfl) rfl #[.int .u64 a0] rfl (by (try simp only [List.map_toArray, List.map_cons, List.map_nil]); first | done | rfl | (simp only [List.length_drop, List.length_take]; rfl)) ?_; (with_reducible refine (num_Norm.calls a0 t181 _ A18.out).mono ?_); rintro e w' ⟨rfl, ⟨nd, rfl⟩⟩; refine ⟨_, rfl, ?_⟩) | (go_at_call 20; (with_reducible refine (caulkerref05_None.calls a0 false _ A20.out).mono ?_); rintro e w' ⟨rfl, ⟨nd, rfl⟩⟩))
          go_ret
          exact ⟨by first | rfl | (simp [errW_none, errW_some] <;> rfl) | (simp [*, errW_none, errW_some] <;> rfl), pxb HB⟩
        ·rw [if_neg c19] at H
         have c19b0 : (t181 == a0) = false := beq_eq_false_iff_ne.mpr c19
         have c19b1 : (t181 != a0) = true := bne_iff_ne.mpr c19
         replace H := Option.bind_eq_some_iff.mp H
         obtain ⟨t185, A250, H⟩ := H
         replace H : (if t185 = true then ((num_Norm.f a0).bind fun t186 => (some (t186 == 9221120237041090561))) else (none)) = some r := H
         have A25 := Aside0.mk A250
         clear A250
         by_cases c26 : t185 = true
         ·subst c26
          have H1 : ((num_Norm.f a0).bind fun t186 => (some (t186 == 9221120237041090561))) = some r := by rw [if_pos rfl] at H; exact H
          clear H
          have H := H1
          clear H1
          replace H := Option.bind_eq_some_iff.mp H
          obtain ⟨t186, A270, H⟩ := H
          replace H : (some (t186 == 9221120237041090561)) = some r := H
          have A27 := Aside0.mk A270
          clear A270
          obtain rfl := Option.some.inj H
          go_wp2_with (first | ((with_reducible refine gate_callee (f := 19) rfl ?_); refine goesL_ (some 36) rfl rfl Tryd.func19 (by kernel_rfl) rfl #[.int .u64 a0] rfl (by (try simp only [List.map_toArray, List.map_cons, List.map_nil]); first | done | rfl | (simp only [List.length_drop, List.length_take]; rfl)) ?_; (with_reducible refine (num_Norm.calls a0 t181 _ A18.out).mono ?_); rintro e w' ⟨rfl, ⟨nd, rfl⟩⟩; refine ⟨_, rfl, ?_⟩) | (go_at_call 20; (with_reducible refine (caulkerref05_None.calls a0 true _ A25.out).mono ?_); rintro e w' ⟨rfl, ⟨nd, rfl⟩⟩) | (go_at_call 19; (with_reducible refine (num_Norm.calls a0 t186 _ A27.out).mono ?_); rintro e w' ⟨rfl, ⟨nd, rfl⟩⟩))
          go_ret
          exact ⟨by first | rfl | (simp [errW_none, errW_some] <;> rfl) | (simp [*, errW_none, errW_some] <;> rfl), pxb HB⟩
         ·replace c26 := Bool.eq_false_iff.mpr c26
          subst c26
          have H1 : (none) = some r := by rw [if_neg (show ¬ (false = true) by decide)] at H; exact H
          clear H
          have H := H1
          clear H1
          exact absurd H (by simp)
 ·replace c4 := Bool.eq_false_iff.mpr c4
  subst c4
  have H1 : (none) = some r := by rw [if_neg (show ¬ (false = true) by decide)] at H; exact H
  clear H
  have H := H1
  clear H1
  exact absurd H (by simp)

/-- THE ONE PURE STATEMENT of caulkerlaw05_NumTurns. -/
def caulkerlaw05_NumTurns.Pure : Prop := ∀ (a0 : Int) (a1 : Int), (Lit.int .u64 a0).wf = true → (Lit.int .i64 a1).wf = true → ∃ k, caulkerlaw05_NumTurns.f k a0 a1 = some true

end Go.Proofs.YtbnopcndjdpnkaaDoor.X
