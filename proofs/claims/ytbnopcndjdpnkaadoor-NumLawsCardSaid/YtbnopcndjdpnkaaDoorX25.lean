/- What the program's functions answer, as Lean functions, and that each call does just that; no condition. Written by a program (px.py) out of the translation. -/
import Derived.Test.YtbnopcndjdpnkaaDoorX0
import Derived.Test.YtbnopcndjdpnkaaDoorX29
import Derived.Test.YtbnopcndjdpnkaaDoorX20
import Derived.Test.YtbnopcndjdpnkaaDoorM35
namespace Go.Proofs.YtbnopcndjdpnkaaDoor.X
open Go.RowKit Go.Proofs.YtbnopcndjdpnkaaDoorW.PrintWords Go.Proofs.YtbnopcndjdpnkaaDoorW.PrintLast Go.Proofs.YtbnopcndjdpnkaaDoorW.PrintMore
attribute [local go_sem] max2_int min2_int max_two min_two max_three min_three max_four min_four   -- for this text's walks alone
set_option linter.unusedVariables false
set_option linter.unusedSimpArgs false

/-! ### caulkerref05_Less: function 25 -/
def caulkerref05_Less.j0 : Nat → Int → Int → Bool → Option (Bool)
 | 0, _, _, _ => none
 | k + 1, x0, x1, x24 => if x24 = true then (some false) else ((caulkerref05_Parts.f x0).bind fun bt201 => ((caulkerref05_Parts.f x1).bind fun bt204 => (if (bt201.1 != bt204.1) = true then (some bt201.1) else (if bt201.1 = true then (some (decide (x0 > x1))) else (some (decide (x0 < x1)))))))
def caulkerref05_Less.f (k : Nat) (a0 : Int) (a1 : Int) : Option (Bool) := (caulkerref05_None.f a0).bind fun t197 => (if t197 = true then (caulkerref05_Less.j0 k a0 a1 true) else ((caulkerref05_None.f a1).bind fun t198 => (if t198 = true then (caulkerref05_Less.j0 k a0 a1 true) else ((caulkerref05_Zero.f a0).bind fun t199 => (if t199 = true then ((caulkerref05_Zero.f a1).bind fun t200 => (caulkerref05_Less.j0 k a0 a1 t200)) else (caulkerref05_Less.j0 k a0 a1 false))))))
theorem caulkerref05_Less.mono_l : ∀ k, (∀ y0 y1 y2, LeO (caulkerref05_Less.j0 k y0 y1 y2) (caulkerref05_Less.j0 (k + 1) y0 y1 y2))
 | 0 => fun _ _ _ r h => by simp [caulkerref05_Less.j0] at h
 | k + 1 => by
  have ih0 := caulkerref05_Less.mono_l k
  ·intro y0 y1 y2
   unfold caulkerref05_Less.j0
   repeat' first
   | (with_reducible exact ih0 _ _ _)
   | (with_reducible exact LeO.refl _)
   | (with_reducible exact LeO.none _)
   | (with_reducible refine LeO.ite ?_ ?_)
   | (with_reducible refine LeO.bind ?_ (fun _ => ?_))
   | exact ih0 _ _ _
   | exact LeO.none _
   | refine LeO.ite ?_ ?_
   | refine LeO.bind ?_ (fun _ => ?_)
theorem caulkerref05_Less.mono : ∀ a0 a1 k, LeO (caulkerref05_Less.f k a0 a1) (caulkerref05_Less.f (k + 1) a0 a1) := by
 intro a0 a1 k
 have ih0 := caulkerref05_Less.mono_l k
 unfold caulkerref05_Less.f
 repeat' first
   | (with_reducible exact ih0 _ _ _)
   | (with_reducible exact LeO.refl _)
   | (with_reducible exact LeO.none _)
   | (with_reducible refine LeO.ite ?_ ?_)
   | (with_reducible refine LeO.bind ?_ (fun _ => ?_))
   | exact ih0 _ _ _
   | exact LeO.none _
   | refine LeO.ite ?_ ?_
   | refine LeO.bind ?_ (fun _ => ?_)
set_option maxHeartbeats 8000000 in
set_option maxRecDepth 100000 in
theorem caulkerref05_Less.calls (k : Nat) (a0 : Int) (a1 : Int) (r : Bool) (w : World) (h : caulkerref05_Less.f k a0 a1 = some r) :
  Calls Tryd.prog 25 #[.int .u64 a0, .int .u64 a1] w fun e w' => e = .returned (.bool r) ∧ Drawn0 w w' := by
 have H : ((caulkerref05_None.f a0).bind fun t197 => (if t197 = true then (caulkerref05_Less.j0 k a0 a1 true) else ((caulkerref05_None.f a1).bind fun t198 => (if t198 = true then (caulkerref05_Less.j0 k a0 a1 true) else ((caulkerref05_Zero.f a0).bind fun t199 => (if t199 = true then ((caulkerref05_Zero.f a1).bind fun t200 => (caulkerref05_Less.j0 k a0 a1 t200)) else (caulkerref05_Less.j0 k a0 a1 false))))))) = some r := h
 clear h
 have HC3 := Aside0.mk H
 clear H
 go_enter Tryd.func25, Tryd.ntmps25
 go_upto_region 1 with (fail)
 go_cut [24] (fun v24 wc => ∃ (kq : Nat) (x24_2 : Bool), v24 = .bool x24_2 ∧ Aside0 (caulkerref05_Less.j0 kq a0 a1 x24_2 = some r) ∧ Aside0 (kq ≤ k) ∧ Drawn0 w wc)
 case first =>
  have H := HC3.out
  clear HC3
  replace H := Option.bind_eq_some_iff.mp H
  obtain ⟨t197, A40, H⟩ := H
  replace H : (if t197 = true then (caulkerref05_Less.j0 k a0 a1 true) else ((caulkerref05_None.f a1).bind fun t198 => (if t198 = true then (caulkerref05_Less.j0 k a0 a1 true) else ((caulkerref05_Zero.f a0).bind fun t199 => (if t199 = true then ((caulkerref05_Zero.f a1).bind fun t200 => (caulkerref05_Less.j0 k a0 a1 t200)) else (caulkerref05_Less.j0 k a0 a1 false)))))) = some r := H
  have A4 := Aside0.mk A40
  clear A40
  by_cases c5 : t197 = true
  ·subst c5
   have H1 : (caulkerref05_Less.j0 k a0 a1 true) = some r := by rw [if_pos rfl] at H; exact H
   clear H
   have H := H1
   clear H1
   have H' := Aside0.mk H
   clear H
   go_wp2_with (first | ((with_reducible refine gate_callee (f := 20) rfl ?_); refine goesL_ (some 12) rfl rfl Tryd.func20 (by kernel_rfl) rfl #[.int .u64 a0] rfl (by (try simp only [List.map_toArray, List.map_cons, List.map_nil]); first | done | rfl | (simp only [List.length_drop, List.length_take]; rfl)) ?_; (with_reducible refine (caulkerref05_None.calls a0 true _ A4.out).mono ?_); rintro e w' ⟨rfl, ⟨nd, rfl⟩⟩; refine ⟨_, rfl, ?_⟩))
   go_meet
   case rel => exact ⟨_, (true), (by first | rfl | (simp; done) | (simp [*]; done)), H', ⟨by first | omega | exact Nat.le_refl _⟩, by repeat (first | exact Drawn0.refl _ | apply Drawn0.step)⟩
  ·replace c5 := Bool.eq_false_iff.mpr c5
   subst c5
   have H1 : ((caulkerref05_None.f a1).bind fun t198 => (if t198 = true then (caulkerref05_Less.j0 k a0 a1 true) else ((caulkerref05_Zero.f a0).bind fun t199 => (if t199 = true then ((caulkerref05_Zero.f a1).bind fun t200 => (caulkerref05_Less.j0 k a0 a1 t200)) else (caulkerref05_Less.j0 k a0 a1 false))))) = some r := by rw [if_neg (show ¬ (false = true) by decide)] at H; exact H
   clear H
   have H := H1
   clear H1
   replace H := Option.bind_eq_some_iff.mp H
   obtain ⟨t198, A60, H⟩ := H
   replace H : (if t198 = true then (caulkerref05_Less.j0 k a0 a1 true) else ((caulkerref05_Zero.f a0).bind fun t199 => (if t199 = true then ((caulkerref05_Zero.f a1).bind fun t200 => (caulkerref05_Less.j0 k a0 a1 t200)) else (caulkerref05_Less.j0 k a0 a1 false)))) = some r := H
   have A6 := Aside0.mk A60
   clear A60
   by_cases c7 : t198 = true
   ·subst c7
    have H1 : (caulkerref05_Less.j0 k a0 a1 true) = some r := by rw [if_pos rfl] at H; exact H
    clear H
    have H := H1
    clear H1
    have H' := Aside0.mk H
    clear H
    go_wp2_with (first | ((with_reducible refine gate_callee (f := 20) rfl ?_); refine goesL_ (some 12) rfl rfl Tryd.func20 (by kernel_rfl) rfl #[.int .u64 a0] rfl (by (try simp only [List.map_toArray, List.map_cons, List.map_nil]); first | done | rfl | (simp only [List.length_drop, List.length_take]; rfl)) ?_; (with_reducible refine (caulkerref05_None.calls a0 false _ A4.out).mono ?_); rintro e w' ⟨rfl, ⟨nd, rfl⟩⟩; refine ⟨_, rfl, ?_⟩) | (go_at_call 20; (with_reducible refine (caulkerref05_None.calls a1 true _ A6.out).mono ?_); rintro e w' ⟨rfl, ⟨nd, rfl⟩⟩))
    go_meet
    case rel => exact ⟨_, (true), (by first | rfl | (simp; done) | (simp [*]; done)), H', ⟨by first | omega | exact Nat.le_refl _⟩, by repeat (first | exact Drawn0.refl _ | apply Drawn0.step)⟩
   ·replace c7 := Bool.eq_false_iff.mpr c7
    subst c7
    have H1 : ((caulkerref05_Zero.f a0).bind fun t199 => (if t199 = true then ((caulkerref05_Zero.f a1).bind fun t200 => (caulkerref05_Less.j0 k a0 a1 t200)) else (caulkerref05_Less.j0 k a0 a1 false))) = some r := by rw [if_neg (show ¬ (false = true) by decide)] at H; exact H
    clear H
    have H := H1
    clear H1
    replace H := Option.bind_eq_some_iff.mp H
    obtain ⟨t199, A80, H⟩ := H
    replace H : (if t199 = true then ((caulkerref05_Zero.f a1).bind fun t200 => (caulkerref05_Less.j0 k a0 a1 t200)) else (caulkerref05_Less.j0 k a0 a1 false)) = some r := H
    have A8 := Aside0.mk A80
    clear A80
    by_cases c9 : t199 = true
    ·subst c9
     have H1 : ((caulkerref05_Zero.f a1).bind fun t200 => (caulkerref05_Less.j0 k a0 a1 t200)) = some r := by rw [if_pos rfl] at H; exact H
     clear H
     have H := H1
     clear H1
     replace H := Option.bind_eq_some_iff.mp H
     obtain ⟨t200, A100, H⟩ := H
     replace H : (caulkerref05_Less.j0 k a0 a1 t200) = some r := H
     have A10 := Aside0.mk A100
     clear A100
     have H' := Aside0.mk H
     clear H
     go_wp2_with (first | ((with_reducible refine gate_callee (f := 20) rfl ?_); refine goesL_ (some 12) rfl rfl Tryd.func20 (by kernel_rfl) rfl #[.int .u64 a0] rfl (by (try simp only [List.map_toArray, List.map_cons, List.map_nil]); first | done | rfl | (simp only [List.length_drop, List.length_take]; rfl)) ?_; (with_reducible refine (caulkerref05_None.calls a0 false _ A4.out).mono ?_); rintro e w' ⟨rfl, ⟨nd, rfl⟩⟩; refine ⟨_, rfl, ?_⟩) | (go_at_call 20; (with_reducible refine (caulkerref05_None.calls a1 false _ A6.out).mono ?_); rintro e w' ⟨rfl, ⟨nd, rfl⟩⟩) | (go_at_call 31; (with_reducible refine (caulkerref05_Zero.calls a0 true _ A8.out).mono ?_); rintro e w' ⟨rfl, ⟨nd, rfl⟩⟩) | (go_at_call 31; (with_reducible refine (caulkerref05_Zero.calls a1 t200 _ A10.out).mono ?_); rintro e w' ⟨rfl, ⟨nd, rfl⟩⟩))
     go_meet
     case rel => exact ⟨_, (t200), (by first | rfl | (simp; done) | (simp [*]; done)), H', ⟨by first | omega | exact Nat.le_refl _⟩, by repeat (first | exact Drawn0.refl _ | apply Drawn0.step)⟩
    ·replace c9 := Bool.eq_false_iff.mpr c9
     subst c9
     have H1 : (caulkerref05_Less.j0 k a0 a1 false) = some r := by rw [if_neg (show ¬ (false = true) by decide)] at H; exact H
     clear H
     have H := H1
     clear H1
     have H' := Aside0.mk H
     clear H
     go_wp2_with (first | ((with_reducible refine gate_callee (f := 20) rfl ?_); refine goesL_ (some 12) rfl rfl Tryd.func20 (by kernel_rfl) rfl #[.int .u64 a0] rfl (by (try simp only [List.map_toArray, List.map_cons, List.map_nil]); first | done | rfl | (simp only [List.length_drop, List.length_take]; rfl)) ?_; (with_reducible refine (caulkerref05_None.calls a0 false _ A4.out).mono ?_); rintro e w' ⟨rfl, ⟨nd, rfl⟩⟩; refine ⟨_, rfl, ?_⟩) | (go_at_call 20; (with_reducible refine (caulkerref05_None.calls a1 false _ A6.out).mono ?_); rintro e w' ⟨rfl, ⟨nd, rfl⟩⟩) | (go_at_call 31; (with_reducible refine (caulkerref05_Zero.calls a0 false _ A8.out).mono ?_); rintro e w' ⟨rfl, ⟨nd, rfl⟩⟩))
     go_meet
     case rel => exact ⟨_, (false), (by first | rfl | (simp; done) | (simp [*]; done)), H', ⟨by first | omega | exact Nat.le_refl _⟩, by repeat (first | exact Drawn0.refl _ | apply Drawn0.step)⟩
 case rest =>
  clear HC3
  try clear c2
  try clear p2
  try clear c5
  try clear c7
  try clear c9
  obtain ⟨kq, x24_2, rfl, HA, HJ2, ⟨mc2, rfl⟩⟩ := hcut
  cases kq with
  | zero => exact absurd HA.out (by simp [caulkerref05_Less.j0])
  | succ kj2 =>
   have H := HA.out
   clear HA
   simp only [caulkerref05_Less.j0] at H
   by_cases c11 : x24_2 = true
   ·subst c11
    have H1 : (some false) = some r := by rw [if_pos rfl] at H; exact H
    clear H
    have H := H1
    clear H1
    obtain rfl := Option.some.inj H
    go_wp2
    go_ret
    exact ⟨by first | rfl | (simp; done) | (simp [*]; done), by repeat (first | exact Drawn0.refl _ | apply Drawn0.step)⟩
   ·replace c11 := Bool.eq_false_iff.mpr c11
    subst c11
    have H1 : ((caulkerref05_Parts.f a0).bind fun bt201 => ((caulkerref05_Parts.f a1).bind fun bt204 => (if (bt201.1 != bt204.1) = true then (some bt201.1) else (if bt201.1 = true then (some (decide (a0 > a1))) else (some (decide (a0 < a1))))))) = some r := by rw [if_neg (show ¬ (false = true) by decide)] at H; exact H
    clear H
    have H := H1
    clear H1
    replace H := Option.bind_eq_some_iff.mp H
    obtain ⟨⟨t201, t202, t203⟩, A120, H⟩ := H
    replace H : ((caulkerref05_Parts.f a1).bind fun bt204 => (if (t201 != bt204.1) = true then (some t201) else (if t201 = true then (some (decide (a0 > a1))) else (some (decide (a0 < a1)))))) = some r := H
    have A12 := Aside0.mk A120
    clear A120
    replace H := Option.bind_eq_some_iff.mp H
    obtain ⟨⟨t204, t205, t206⟩, A130, H⟩ := H
    replace H : (if (t201 != t204) = true then (some t201) else (if t201 = true then (some (decide (a0 > a1))) else (some (decide (a0 < a1))))) = some r := H
    have A13 := Aside0.mk A130
    clear A130
    by_cases c14 : (t201 != t204) = true
    ·rw [if_pos c14] at H
     have c14b0 : (t201 != t204) = true := c14
     (try (have c14b1 : decide (t201 = t204) = false := by simpa using c14))
     (try (have c14b2 : (t201 == t204) = false := by simpa using c14))
     (try (have c14b3 : ¬ (t201 = t204) := by simpa using c14))
     clear c14
     obtain rfl := Option.some.inj H
     go_wp2_with (first | ((with_reducible refine gate_callee (f := 29) rfl ?_); refine goesL_ (some 27) rfl rfl Tryd.func29 (by kernel_rfl) rfl #[.int .u64 a0] rfl (by (try simp only [List.map_toArray, List.map_cons, List.map_nil]); first | done | rfl | (simp only [List.length_drop, List.length_take]; rfl)) ?_; (with_reducible refine (caulkerref05_Parts.calls a0 t201 t202 t203 _ A12.out).mono ?_); rintro e w' ⟨rfl, ⟨nd, rfl⟩⟩; refine ⟨_, rfl, ?_⟩) | ((with_reducible refine gate_callee (f := 29) rfl ?_); refine goesL_ (some 33) rfl rfl Tryd.func29 (by kernel_rfl) rfl #[.int .u64 a1] rfl (by (try simp only [List.map_toArray, List.map_cons, List.map_nil]); first | done | rfl | (simp only [List.length_drop, List.length_take]; rfl)) ?_; (with_reducible refine (caulkerref05_Parts.calls a1 t204 t205 t206 _ A13.out).mono ?_); rintro e w' ⟨rfl, ⟨nd, rfl⟩⟩; refine ⟨_, rfl, ?_⟩))
     go_ret
     exact ⟨by first | rfl | (simp; done) | (simp [*]; done), by repeat (first | exact Drawn0.refl _ | apply Drawn0.step)⟩
    ·rw [if_neg c14] at H
     have c14b0 : (t201 != t204) = false := by simpa using c14
     (try (have c14b1 : decide (t201 = t204) = true := by simpa using c14))
     (try (have c14b2 : (t201 == t204) = true := by simpa using c14))
     clear c14
     by_cases c15 : t201 = true
     ·subst c15
      have H1 : (some (decide (a0 > a1))) = some r := by rw [if_pos rfl] at H; exact H
      clear H
      have H := H1
      clear H1
      obtain rfl := Option.some.inj H
      go_wp2_with (first | ((with_reducible refine gate_callee (f := 29) rfl ?_); refine goesL_ (some 27) rfl rfl Tryd.func29 (by kernel_rfl) rfl #[.int .u64 a0] rfl (by (try simp only [List.map_toArray, List.map_cons, List.map_nil]); first | done | rfl | (simp only [List.length_drop, List.length_take]; rfl)) ?_; (with_reducible refine (caulkerref05_Parts.calls a0 true t202 t203 _ A12.out).mono ?_); rintro e w' ⟨rfl, ⟨nd, rfl⟩⟩; refine ⟨_, rfl, ?_⟩) | ((with_reducible refine gate_callee (f := 29) rfl ?_); refine goesL_ (some 33) rfl rfl Tryd.func29 (by kernel_rfl) rfl #[.int .u64 a1] rfl (by (try simp only [List.map_toArray, List.map_cons, List.map_nil]); first | done | rfl | (simp only [List.length_drop, List.length_take]; rfl)) ?_; (with_reducible refine (caulkerref05_Parts.calls a1 t204 t205 t206 _ A13.out).mono ?_); rintro e w' ⟨rfl, ⟨nd, rfl⟩⟩; refine ⟨_, rfl, ?_⟩))
      go_ret
      exact ⟨by first | rfl | (simp; done) | (simp [*]; done), by repeat (first | exact Drawn0.refl _ | apply Drawn0.step)⟩
     ·replace c15 := Bool.eq_false_iff.mpr c15
      subst c15
      have H1 : (some (decide (a0 < a1))) = some r := by rw [if_neg (show ¬ (false = true) by decide)] at H; exact H
      clear H
      have H := H1
      clear H1
      obtain rfl := Option.some.inj H
      go_wp2_with (first | ((with_reducible refine gate_callee (f := 29) rfl ?_); refine goesL_ (some 27) rfl rfl Tryd.func29 (by kernel_rfl) rfl #[.int .u64 a0] rfl (by (try simp only [List.map_toArray, List.map_cons, List.map_nil]); first | done | rfl | (simp only [List.length_drop, List.length_take]; rfl)) ?_; (with_reducible refine (caulkerref05_Parts.calls a0 false t202 t203 _ A12.out).mono ?_); rintro e w' ⟨rfl, ⟨nd, rfl⟩⟩; refine ⟨_, rfl, ?_⟩) | ((with_reducible refine gate_callee (f := 29) rfl ?_); refine goesL_ (some 33) rfl rfl Tryd.func29 (by kernel_rfl) rfl #[.int .u64 a1] rfl (by (try simp only [List.map_toArray, List.map_cons, List.map_nil]); first | done | rfl | (simp only [List.length_drop, List.length_take]; rfl)) ?_; (with_reducible refine (caulkerref05_Parts.calls a1 t204 t205 t206 _ A13.out).mono ?_); rintro e w' ⟨rfl, ⟨nd, rfl⟩⟩; refine ⟨_, rfl, ?_⟩))
      go_ret
      exact ⟨by first | rfl | (simp; done) | (simp [*]; done), by repeat (first | exact Drawn0.refl _ | apply Drawn0.step)⟩

end Go.Proofs.YtbnopcndjdpnkaaDoor.X
