/- What the program's functions answer, as Lean functions, and that each call does just that; no condition. Written by a program (px.py) out of the translation. -/
import Derived.Test.YtbnopcndjdpnkaaDoorX0
import Derived.Test.YtbnopcndjdpnkaaDoorX29
import Derived.Test.YtbnopcndjdpnkaaDoorX20
namespace Go.Proofs.YtbnopcndjdpnkaaDoor.X
open Go.RowKit Go.Proofs.YtbnopcndjdpnkaaDoorW.PrintWords Go.Proofs.YtbnopcndjdpnkaaDoorW.PrintLast Go.Proofs.YtbnopcndjdpnkaaDoorW.PrintMore
attribute [local go_sem] max2_int min2_int max_two min_two max_three min_three max_four min_four   -- for this text's walks alone
set_option linter.unusedVariables false
set_option linter.unusedSimpArgs false

/-! ### caulkerref05_ToInt: function 17 -/
def caulkerref05_ToInt.j0 : Nat → Bool → Int → Int → Bool → Option (Int)
 | 0, _, _, _, _ => none
 | k + 1, x3, x4, x5, x18 => if x18 = true then (some 0) else (if x4 ≥ 1086 then (if x3 = true then (some (-9223372036854775808)) else (some 9223372036854775807)) else (if x4 ≥ 1075 then (if 0 ≤ (IntKind.u64.wrap (wrap64 ((wrap64 (x4 - 1023)) - 52))) then (if x3 = true then (some (wrap64 (-(wrap64 (shl .u64 (IntKind.u64.wrap (x5 + 4503599627370496)) (IntKind.u64.wrap (wrap64 ((wrap64 (x4 - 1023)) - 52)))))))) else (some (wrap64 (shl .u64 (IntKind.u64.wrap (x5 + 4503599627370496)) (IntKind.u64.wrap (wrap64 ((wrap64 (x4 - 1023)) - 52))))))) else (none)) else (if 0 ≤ (IntKind.u64.wrap (wrap64 (1075 - x4))) then (if x3 = true then (some (wrap64 (-(wrap64 (shr .u64 (IntKind.u64.wrap (x5 + 4503599627370496)) (IntKind.u64.wrap (wrap64 (1075 - x4)))))))) else (some (wrap64 (shr .u64 (IntKind.u64.wrap (x5 + 4503599627370496)) (IntKind.u64.wrap (wrap64 (1075 - x4))))))) else (none))))
def caulkerref05_ToInt.f (k : Nat) (a0 : Int) : Option (Int) := (caulkerref05_Parts.f a0).bind fun bt171 => ((caulkerref05_None.f a0).bind fun t174 => (if t174 = true then (caulkerref05_ToInt.j0 k bt171.1 bt171.2.1 bt171.2.2 true) else (caulkerref05_ToInt.j0 k bt171.1 bt171.2.1 bt171.2.2 (decide (bt171.2.1 < 1023)))))
theorem caulkerref05_ToInt.mono_l : ∀ k, (∀ y0 y1 y2 y3, LeO (caulkerref05_ToInt.j0 k y0 y1 y2 y3) (caulkerref05_ToInt.j0 (k + 1) y0 y1 y2 y3))
 | 0 => fun _ _ _ _ r h => by simp [caulkerref05_ToInt.j0] at h
 | k + 1 => by
  have ih0 := caulkerref05_ToInt.mono_l k
  ·intro y0 y1 y2 y3
   unfold caulkerref05_ToInt.j0
   repeat' first
   | (with_reducible exact ih0 _ _ _ _)
   | (with_reducible exact LeO.refl _)
   | (with_reducible exact LeO.none _)
   | (with_reducible refine LeO.ite ?_ ?_)
   | (with_reducible refine LeO.bind ?_ (fun _ => ?_))
   | exact ih0 _ _ _ _
   | exact LeO.none _
   | refine LeO.ite ?_ ?_
   | refine LeO.bind ?_ (fun _ => ?_)
theorem caulkerref05_ToInt.mono : ∀ a0 k, LeO (caulkerref05_ToInt.f k a0) (caulkerref05_ToInt.f (k + 1) a0) := by
 intro a0 k
 have ih0 := caulkerref05_ToInt.mono_l k
 unfold caulkerref05_ToInt.f
 repeat' first
   | (with_reducible exact ih0 _ _ _ _)
   | (with_reducible exact LeO.refl _)
   | (with_reducible exact LeO.none _)
   | (with_reducible refine LeO.ite ?_ ?_)
   | (with_reducible refine LeO.bind ?_ (fun _ => ?_))
   | exact ih0 _ _ _ _
   | exact LeO.none _
   | refine LeO.ite ?_ ?_
   | refine LeO.bind ?_ (fun _ => ?_)
set_option maxHeartbeats 8000000 in
set_option maxRecDepth 100000 in
theorem caulkerref05_ToInt.calls (k : Nat) (a0 : Int) (r : Int) (w : World) (h : caulkerref05_ToInt.f k a0 = some r) :
  Calls Tryd.prog 17 #[.int .u64 a0] w fun e w' => e = .returned (.int .i64 r) ∧ Drawn0 w w' := by
 have H : ((caulkerref05_Parts.f a0).bind fun bt171 => ((caulkerref05_None.f a0).bind fun t174 => (if t174 = true then (caulkerref05_ToInt.j0 k bt171.1 bt171.2.1 bt171.2.2 true) else (caulkerref05_ToInt.j0 k bt171.1 bt171.2.1 bt171.2.2 (decide (bt171.2.1 < 1023)))))) = some r := h
 clear h
 replace H := Option.bind_eq_some_iff.mp H
 obtain ⟨⟨t171, t172, t173⟩, A20, H⟩ := H
 replace H : ((caulkerref05_None.f a0).bind fun t174 => (if t174 = true then (caulkerref05_ToInt.j0 k t171 t172 t173 true) else (caulkerref05_ToInt.j0 k t171 t172 t173 (decide (t172 < 1023))))) = some r := H
 have A2 := Aside0.mk A20
 clear A20
 have HC3 := Aside0.mk H
 clear H
 go_enter Tryd.func17, Tryd.ntmps17
 go_upto_region 2 with (first | ((with_reducible refine gate_callee (f := 29) rfl ?_); refine goesL_ (some 9) rfl rfl Tryd.func29 (by kernel_rfl) rfl #[.int .u64 a0] rfl (by (try simp only [List.map_toArray, List.map_cons, List.map_nil]); first | done | rfl | (simp only [List.length_drop, List.length_take]; rfl)) ?_; (with_reducible refine (caulkerref05_Parts.calls a0 t171 t172 t173 _ A2.out).mono ?_); rintro e w' ⟨rfl, ⟨nd, rfl⟩⟩; refine ⟨_, rfl, ?_⟩))
 (try simp only [Act.put, List.setIfInBounds_toArray, List.set_cons_zero, List.set_cons_succ])
 go_cut [18] (fun v18 wc => ∃ (kq : Nat) (x18_2 : Bool), v18 = .bool x18_2 ∧ Aside0 (caulkerref05_ToInt.j0 kq t171 t172 t173 x18_2 = some r) ∧ Aside0 (kq ≤ k) ∧ Drawn0 w wc)
 case first =>
  have H := HC3.out
  clear HC3
  replace H := Option.bind_eq_some_iff.mp H
  obtain ⟨t174, A40, H⟩ := H
  replace H : (if t174 = true then (caulkerref05_ToInt.j0 k t171 t172 t173 true) else (caulkerref05_ToInt.j0 k t171 t172 t173 (decide (t172 < 1023)))) = some r := H
  have A4 := Aside0.mk A40
  clear A40
  by_cases c5 : t174 = true
  ·subst c5
   have H1 : (caulkerref05_ToInt.j0 k t171 t172 t173 true) = some r := by rw [if_pos rfl] at H; exact H
   clear H
   have H := H1
   clear H1
   have H' := Aside0.mk H
   clear H
   go_wp2_with (first | ((with_reducible refine gate_callee (f := 20) rfl ?_); refine goesL_ (some 14) rfl rfl Tryd.func20 (by kernel_rfl) rfl #[.int .u64 a0] rfl (by (try simp only [List.map_toArray, List.map_cons, List.map_nil]); first | done | rfl | (simp only [List.length_drop, List.length_take]; rfl)) ?_; (with_reducible refine (caulkerref05_None.calls a0 true _ A4.out).mono ?_); rintro e w' ⟨rfl, ⟨nd, rfl⟩⟩; refine ⟨_, rfl, ?_⟩))
   go_meet
   case rel => exact ⟨_, (true), (by first | rfl | (simp; done) | (simp [*]; done)), H', ⟨by first | omega | exact Nat.le_refl _⟩, by repeat (first | exact Drawn0.refl _ | apply Drawn0.step)⟩
  ·replace c5 := Bool.eq_false_iff.mpr c5
   subst c5
   have H1 : (caulkerref05_ToInt.j0 k t171 t172 t173 (decide (t172 < 1023))) = some r := by rw [if_neg (show ¬ (false = true) by decide)] at H; exact H
   clear H
   have H := H1
   clear H1
   have H' := Aside0.mk H
   clear H
   go_wp2_with (first | ((with_reducible refine gate_callee (f := 20) rfl ?_); refine goesL_ (some 14) rfl rfl Tryd.func20 (by kernel_rfl) rfl #[.int .u64 a0] rfl (by (try simp only [List.map_toArray, List.map_cons, List.map_nil]); first | done | rfl | (simp only [List.length_drop, List.length_take]; rfl)) ?_; (with_reducible refine (caulkerref05_None.calls a0 false _ A4.out).mono ?_); rintro e w' ⟨rfl, ⟨nd, rfl⟩⟩; refine ⟨_, rfl, ?_⟩))
   go_meet
   case rel => exact ⟨_, (decide (t172 < 1023)), (by first | rfl | (simp; done) | (simp [*]; done)), H', ⟨by first | omega | exact Nat.le_refl _⟩, by repeat (first | exact Drawn0.refl _ | apply Drawn0.step)⟩
 case rest =>
  clear HC3
  try clear c1
  try clear c2
  try clear p2
  try clear c5
  obtain ⟨kq, x18_2, rfl, HA, HJ2, ⟨mc2, rfl⟩⟩ := hcut
  cases kq with
  | zero => exact absurd HA.out (by simp [caulkerref05_ToInt.j0])
  | succ kj2 =>
   have H := HA.out
   clear HA
   simp only [caulkerref05_ToInt.j0] at H
   by_cases c6 : x18_2 = true
   ·subst c6
    have H1 : (some 0) = some r := by rw [if_pos rfl] at H; exact H
    clear H
    have H := H1
    clear H1
    obtain rfl := Option.some.inj H
    go_wp2
    go_ret
    exact ⟨by first | rfl | (simp; done) | (simp [*]; done), by repeat (first | exact Drawn0.refl _ | apply Drawn0.step)⟩
   ·replace c6 := Bool.eq_false_iff.mpr c6
    subst c6
    have H1 : (if t172 ≥ 1086 then (if t171 = true then (some (-9223372036854775808)) else (some 9223372036854775807)) else (if t172 ≥ 1075 then (if 0 ≤ (IntKind.u64.wrap (wrap64 ((wrap64 (t172 - 1023)) - 52))) then (if t171 = true then (some (wrap64 (-(wrap64 (shl .u64 (IntKind.u64.wrap (t173 + 4503599627370496)) (IntKind.u64.wrap (wrap64 ((wrap64 (t172 - 1023)) - 52)))))))) else (some (wrap64 (shl .u64 (IntKind.u64.wrap (t173 + 4503599627370496)) (IntKind.u64.wrap (wrap64 ((wrap64 (t172 - 1023)) - 52))))))) else (none)) else (if 0 ≤ (IntKind.u64.wrap (wrap64 (1075 - t172))) then (if t171 = true then (some (wrap64 (-(wrap64 (shr .u64 (IntKind.u64.wrap (t173 + 4503599627370496)) (IntKind.u64.wrap (wrap64 (1075 - t172)))))))) else (some (wrap64 (shr .u64 (IntKind.u64.wrap (t173 + 4503599627370496)) (IntKind.u64.wrap (wrap64 (1075 - t172))))))) else (none)))) = some r := by rw [if_neg (show ¬ (false = true) by decide)] at H; exact H
    clear H
    have H := H1
    clear H1
    by_cases c7 : t172 ≥ 1086
    ·rw [if_pos c7] at H
     have c7b0 : decide (1086 ≤ t172) = true := decide_eq_true c7
     clear c7
     by_cases c8 : t171 = true
     ·subst c8
      have H1 : (some (-9223372036854775808)) = some r := by rw [if_pos rfl] at H; exact H
      clear H
      have H := H1
      clear H1
      obtain rfl := Option.some.inj H
      go_wp2
      go_ret
      exact ⟨by first | rfl | (simp; done) | (simp [*]; done), by repeat (first | exact Drawn0.refl _ | apply Drawn0.step)⟩
     ·replace c8 := Bool.eq_false_iff.mpr c8
      subst c8
      have H1 : (some 9223372036854775807) = some r := by rw [if_neg (show ¬ (false = true) by decide)] at H; exact H
      clear H
      have H := H1
      clear H1
      obtain rfl := Option.some.inj H
      go_wp2
      go_ret
      exact ⟨by first | rfl | (simp; done) | (simp [*]; done), by repeat (first | exact Drawn0.refl _ | apply Drawn0.step)⟩
    ·rw [if_neg c7] at H
     have c7b0 : decide (1086 ≤ t172) = false := decide_eq_false c7
     clear c7
     by_cases c9 : t172 ≥ 1075
     ·rw [if_pos c9] at H
      have c9b0 : decide (1075 ≤ t172) = true := decide_eq_true c9
      clear c9
      obtain ⟨ji10, hji10⟩ : ∃ j_ : Int, (IntKind.u64.wrap (wrap64 ((wrap64 (t172 - 1023)) - 52))) = j_ := ⟨_, rfl⟩
      replace H : (if 0 ≤ (ji10) then (if t171 = true then (some (wrap64 (-(wrap64 (shl .u64 (IntKind.u64.wrap (t173 + 4503599627370496)) (ji10)))))) else (some (wrap64 (shl .u64 (IntKind.u64.wrap (t173 + 4503599627370496)) (ji10))))) else (none)) = some r := by first | (rw [hji10] at H; exact H) | (simp only [hji10] at H ⊢; exact H)
      by_cases c11 : 0 ≤ (ji10)
      ·rw [if_pos c11] at H
       have c11b0 := eq_true c11
       have c11b1 : decide (0 ≤ (ji10)) = true := decide_eq_true c11
       clear c11
       obtain ⟨ji12, hji12⟩ : ∃ j_ : Int, (shl .u64 (IntKind.u64.wrap (t173 + 4503599627370496)) (ji10)) = j_ := ⟨_, rfl⟩
       replace H : (if t171 = true then (some (wrap64 (-(wrap64 (ji12))))) else (some (wrap64 (ji12)))) = some r := by first | (rw [hji12] at H; exact H) | (simp only [hji12] at H ⊢; exact H)
       have hji12_ : (IntKind.u64.wrap ((IntKind.u64.wrap (t173 + 4503599627370496)) * 2 ^ min (ji10).toNat 64)) = ji12 := hji12
       have hji12z : (ji10) ≤ 64 → (IntKind.u64.wrap ((IntKind.u64.wrap (t173 + 4503599627370496)) * 2 ^ (ji10).toNat)) = ji12 := shl_small hji12
       by_cases c13 : t171 = true
       ·subst c13
        have H1 : (some (wrap64 (-(wrap64 (ji12))))) = some r := by rw [if_pos rfl] at H; exact H
        clear H
        have H := H1
        clear H1
        obtain rfl := Option.some.inj H
        go_wp2
        go_ret
        exact ⟨by first | rfl | (simp; done) | (simp only [← hji10, ← hji12] <;> (first | rfl | simp)) | (simp [*]; done), by repeat (first | exact Drawn0.refl _ | apply Drawn0.step)⟩
       ·replace c13 := Bool.eq_false_iff.mpr c13
        subst c13
        have H1 : (some (wrap64 (ji12))) = some r := by rw [if_neg (show ¬ (false = true) by decide)] at H; exact H
        clear H
        have H := H1
        clear H1
        obtain rfl := Option.some.inj H
        go_wp2
        go_ret
        exact ⟨by first | rfl | (simp; done) | (simp only [← hji10, ← hji12] <;> (first | rfl | simp)) | (simp [*]; done), by repeat (first | exact Drawn0.refl _ | apply Drawn0.step)⟩
      ·rw [if_neg c11] at H
       exact absurd H (by simp)
     ·rw [if_neg c9] at H
      have c9b0 : decide (1075 ≤ t172) = false := decide_eq_false c9
      clear c9
      obtain ⟨ji14, hji14⟩ : ∃ j_ : Int, (IntKind.u64.wrap (wrap64 (1075 - t172))) = j_ := ⟨_, rfl⟩
      replace H : (if 0 ≤ (ji14) then (if t171 = true then (some (wrap64 (-(wrap64 (shr .u64 (IntKind.u64.wrap (t173 + 4503599627370496)) (ji14)))))) else (some (wrap64 (shr .u64 (IntKind.u64.wrap (t173 + 4503599627370496)) (ji14))))) else (none)) = some r := by first | (rw [hji14] at H; exact H) | (simp only [hji14] at H ⊢; exact H)
      by_cases c15 : 0 ≤ (ji14)
      ·rw [if_pos c15] at H
       have c15b0 := eq_true c15
       have c15b1 : decide (0 ≤ (ji14)) = true := decide_eq_true c15
       clear c15
       obtain ⟨ji16, hji16⟩ : ∃ j_ : Int, (shr .u64 (IntKind.u64.wrap (t173 + 4503599627370496)) (ji14)) = j_ := ⟨_, rfl⟩
       replace H : (if t171 = true then (some (wrap64 (-(wrap64 (ji16))))) else (some (wrap64 (ji16)))) = some r := by first | (rw [hji16] at H; exact H) | (simp only [hji16] at H ⊢; exact H)
       have hji16_ : ((IntKind.u64.wrap (t173 + 4503599627370496)) / 2 ^ min (ji14).toNat 64) = ji16 := hji16
       have hji16z : (ji14) ≤ 64 → ((IntKind.u64.wrap (t173 + 4503599627370496)) / 2 ^ (ji14).toNat) = ji16 := shr_small hji16
       by_cases c17 : t171 = true
       ·subst c17
        have H1 : (some (wrap64 (-(wrap64 (ji16))))) = some r := by rw [if_pos rfl] at H; exact H
        clear H
        have H := H1
        clear H1
        obtain rfl := Option.some.inj H
        go_wp2
        go_ret
        exact ⟨by first | rfl | (simp; done) | (simp only [← hji14, ← hji16] <;> (first | rfl | simp)) | (simp [*]; done), by repeat (first | exact Drawn0.refl _ | apply Drawn0.step)⟩
       ·replace c17 := Bool.eq_false_iff.mpr c17
        subst c17
        have H1 : (some (wrap64 (ji16))) = some r := by rw [if_neg (show ¬ (false = true) by decide)] at H; exact H
        clear H
        have H := H1
        clear H1
        obtain rfl := Option.some.inj H
        go_wp2
        go_ret
        exact ⟨by first | rfl | (simp; done) | (simp only [← hji14, ← hji16] <;> (first | rfl | simp)) | (simp [*]; done), by repeat (first | exact Drawn0.refl _ | apply Drawn0.step)⟩
      ·rw [if_neg c15] at H
       exact absurd H (by simp)

end Go.Proofs.YtbnopcndjdpnkaaDoor.X
