/- What the program's functions answer, as Lean functions, and that each call does just that; no condition. Written by a program (px.py) out of the translation. -/
import Derived.Test.YtbnopcndjdpnkaaDoorX0
import Derived.Test.YtbnopcndjdpnkaaDoorX21
import Derived.Test.YtbnopcndjdpnkaaDoorX10
import Derived.Test.YtbnopcndjdpnkaaDoorX22
import Derived.Test.YtbnopcndjdpnkaaDoorLexW
namespace Go.Proofs.YtbnopcndjdpnkaaDoor.X
open Go.RowKit Go.Proofs.YtbnopcndjdpnkaaDoorW.PrintWords Go.Proofs.YtbnopcndjdpnkaaDoorW.PrintLast Go.Proofs.YtbnopcndjdpnkaaDoorW.PrintMore
attribute [local go_sem] max2_int min2_int max_two min_two max_three min_three max_four min_four   -- for this text's walks alone
set_option linter.unusedVariables false
set_option linter.unusedSimpArgs false

/-! ### caulkerlaw05_NumWhole: function 6 -/
mutual
def caulkerlaw05_NumWhole.j0 : Nat → Int → Int → Int → Int → Int → Int → Bool → Option (Bool)
 | 0, _, _, _, _, _, _, _ => none
 | k + 1, x1, x2, x7, x8, x9, x10, x76 => if x76 = true then (if x2 = 0 then (if x8 = 1 then (some (x7 == 0)) else (none)) else ((num_Op.f k (⟨#[47]⟩ : ByteArray) x1 x2).bind fun bt191 => ((num_Op.f k (⟨#[37]⟩ : ByteArray) x1 x2).bind fun bt193 => (if (wrap64 ((wrap64 (x8 + bt191.2)) + bt193.2)) = 0 then (if (IntKind.u64.wrap ((IntKind.u64.wrap ((IntKind.u64.wrap (bt191.1)) * x10)) + (IntKind.u64.wrap (bt193.1)))) = x9 then (if bt193.1 = 0 then (caulkerlaw05_NumWhole.j1 k x2 x10 bt193.1 false) else (caulkerlaw05_NumWhole.j1 k x2 x10 bt193.1 ((decide (bt193.1 < 0)) != (decide (x1 < 0))))) else (caulkerlaw05_NumWhole.j1 k x2 x10 bt193.1 true)) else (caulkerlaw05_NumWhole.j1 k x2 x10 bt193.1 true))))) else (if x8 = 3 then (some (x7 == 0)) else (none))
def caulkerlaw05_NumWhole.j1 : Nat → Int → Int → Int → Bool → Option (Bool)
 | 0, _, _, _, _ => none
 | k + 1, x2, x10, x13, x126 => if x126 = true then (none) else (if x13 < 0 then (if x2 < 0 then (some (decide ((IntKind.u64.wrap (-(IntKind.u64.wrap (x13)))) < (IntKind.u64.wrap (-x10))))) else (some (decide ((IntKind.u64.wrap (-(IntKind.u64.wrap (x13)))) < x10)))) else (if x2 < 0 then (some (decide ((IntKind.u64.wrap (x13)) < (IntKind.u64.wrap (-x10))))) else (some (decide ((IntKind.u64.wrap (x13)) < x10)))))
end
def caulkerlaw05_NumWhole.f (k : Nat) (a0 : ByteArray) (a1 : Int) (a2 : Int) : Option (Bool) := (caulkerlaw05_reckons.f k).bind fun t187 => (if t187 = true then ((num_Op.f k a0 a1 a2).bind fun bt188 => (if a0.toList = ([43] : List UInt8) then (if bt188.2 = 0 then (some ((IntKind.u64.wrap (bt188.1)) == (IntKind.u64.wrap ((IntKind.u64.wrap (a1)) + (IntKind.u64.wrap (a2)))))) else (none)) else (if a0.toList = ([45] : List UInt8) then (if bt188.2 = 0 then (some ((IntKind.u64.wrap ((IntKind.u64.wrap (bt188.1)) + (IntKind.u64.wrap (a2)))) == (IntKind.u64.wrap (a1)))) else (none)) else (if a0.toList = ([42] : List UInt8) then (if bt188.2 = 0 then (if (IntKind.u64.wrap (bt188.1)) = (IntKind.u64.wrap ((IntKind.u64.wrap (a1)) * (IntKind.u64.wrap (a2)))) then ((num_Neg.f bt188.1).bind fun t190 => (some ((IntKind.u64.wrap ((IntKind.u64.wrap (t190)) + (IntKind.u64.wrap (bt188.1)))) == 0))) else (none)) else (none)) else (if a0.toList = ([47] : List UInt8) then (caulkerlaw05_NumWhole.j0 k a1 a2 bt188.1 bt188.2 (IntKind.u64.wrap (a1)) (IntKind.u64.wrap (a2)) (a0.toList == ([47] : List UInt8))) else (caulkerlaw05_NumWhole.j0 k a1 a2 bt188.1 bt188.2 (IntKind.u64.wrap (a1)) (IntKind.u64.wrap (a2)) (a0.toList == ([37] : List UInt8)))))))) else (none))
theorem caulkerlaw05_NumWhole.mono_l : ∀ k, (∀ y0 y1 y2 y3 y4 y5 y6, LeO (caulkerlaw05_NumWhole.j0 k y0 y1 y2 y3 y4 y5 y6) (caulkerlaw05_NumWhole.j0 (k + 1) y0 y1 y2 y3 y4 y5 y6)) ∧ (∀ y0 y1 y2 y3, LeO (caulkerlaw05_NumWhole.j1 k y0 y1 y2 y3) (caulkerlaw05_NumWhole.j1 (k + 1) y0 y1 y2 y3))
 | 0 => ⟨fun _ _ _ _ _ _ _ r h => by simp [caulkerlaw05_NumWhole.j0] at h, fun _ _ _ _ r h => by simp [caulkerlaw05_NumWhole.j1] at h⟩
 | k + 1 => by
  obtain ⟨ih0, ih1⟩ := caulkerlaw05_NumWhole.mono_l k
  refine ⟨?_, ?_⟩
  ·intro y0 y1 y2 y3 y4 y5 y6
   unfold caulkerlaw05_NumWhole.j0
   repeat' first
   | (with_reducible exact ih0 _ _ _ _ _ _ _)
   | (with_reducible exact ih1 _ _ _ _)
   | (with_reducible exact caulkerlaw05_reckons.mono _)
   | (with_reducible exact num_Op.mono _ _ _ _)
   | (with_reducible exact LeO.refl _)
   | (with_reducible exact LeO.none _)
   | (with_reducible refine LeO.ite ?_ ?_)
   | (with_reducible refine LeO.bind ?_ (fun _ => ?_))
   | exact ih0 _ _ _ _ _ _ _
   | exact ih1 _ _ _ _
   | exact caulkerlaw05_reckons.mono _
   | exact num_Op.mono _ _ _ _
   | exact LeO.none _
   | refine LeO.ite ?_ ?_
   | refine LeO.bind ?_ (fun _ => ?_)
  ·intro y0 y1 y2 y3
   unfold caulkerlaw05_NumWhole.j1
   repeat' first
   | (with_reducible exact ih0 _ _ _ _ _ _ _)
   | (with_reducible exact ih1 _ _ _ _)
   | (with_reducible exact caulkerlaw05_reckons.mono _)
   | (with_reducible exact num_Op.mono _ _ _ _)
   | (with_reducible exact LeO.refl _)
   | (with_reducible exact LeO.none _)
   | (with_reducible refine LeO.ite ?_ ?_)
   | (with_reducible refine LeO.bind ?_ (fun _ => ?_))
   | exact ih0 _ _ _ _ _ _ _
   | exact ih1 _ _ _ _
   | exact caulkerlaw05_reckons.mono _
   | exact num_Op.mono _ _ _ _
   | exact LeO.none _
   | refine LeO.ite ?_ ?_
   | refine LeO.bind ?_ (fun _ => ?_)
theorem caulkerlaw05_NumWhole.mono : ∀ a0 a1 a2 k, LeO (caulkerlaw05_NumWhole.f k a0 a1 a2) (caulkerlaw05_NumWhole.f (k + 1) a0 a1 a2) := by
 intro a0 a1 a2 k
 obtain ⟨ih0, ih1⟩ := caulkerlaw05_NumWhole.mono_l k
 unfold caulkerlaw05_NumWhole.f
 repeat' first
   | (with_reducible exact ih0 _ _ _ _ _ _ _)
   | (with_reducible exact ih1 _ _ _ _)
   | (with_reducible exact caulkerlaw05_reckons.mono _)
   | (with_reducible exact num_Op.mono _ _ _ _)
   | (with_reducible exact LeO.refl _)
   | (with_reducible exact LeO.none _)
   | (with_reducible refine LeO.ite ?_ ?_)
   | (with_reducible refine LeO.bind ?_ (fun _ => ?_))
   | exact ih0 _ _ _ _ _ _ _
   | exact ih1 _ _ _ _
   | exact caulkerlaw05_reckons.mono _
   | exact num_Op.mono _ _ _ _
   | exact LeO.none _
   | refine LeO.ite ?_ ?_
   | refine LeO.bind ?_ (fun _ => ?_)
set_option maxHeartbeats 8000000 in
set_option maxRecDepth 100000 in
theorem caulkerlaw05_NumWhole.calls (k : Nat) (a0 : ByteArray) (a1 : Int) (a2 : Int) (r : Bool) (w : World) (h : caulkerlaw05_NumWhole.f k a0 a1 a2 = some r) (hgv : LexW.GV w) :
  Calls Tryd.prog 6 #[.string a0, .int .i64 a1, .int .i64 a2] w fun e w' => e = .returned (.bool r) ∧ Below w.heap.size w w' := by
 have HGV := Aside0.mk hgv
 clear hgv
 have HB := Aside0.mk (Below.refl w.heap.size w)
 have H : ((caulkerlaw05_reckons.f k).bind fun t187 => (if t187 = true then ((num_Op.f k a0 a1 a2).bind fun bt188 => (if a0.toList = ([43] : List UInt8) then (if bt188.2 = 0 then (some ((IntKind.u64.wrap (bt188.1)) == (IntKind.u64.wrap ((IntKind.u64.wrap (a1)) + (IntKind.u64.wrap (a2)))))) else (none)) else (if a0.toList = ([45] : List UInt8) then (if bt188.2 = 0 then (some ((IntKind.u64.wrap ((IntKind.u64.wrap (bt188.1)) + (IntKind.u64.wrap (a2)))) == (IntKind.u64.wrap (a1)))) else (none)) else (if a0.toList = ([42] : List UInt8) then (if bt188.2 = 0 then (if (IntKind.u64.wrap (bt188.1)) = (IntKind.u64.wrap ((IntKind.u64.wrap (a1)) * (IntKind.u64.wrap (a2)))) then ((num_Neg.f bt188.1).bind fun t190 => (some ((IntKind.u64.wrap ((IntKind.u64.wrap (t190)) + (IntKind.u64.wrap (bt188.1)))) == 0))) else (none)) else (none)) else (if a0.toList = ([47] : List UInt8) then (caulkerlaw05_NumWhole.j0 k a1 a2 bt188.1 bt188.2 (IntKind.u64.wrap (a1)) (IntKind.u64.wrap (a2)) (a0.toList == ([47] : List UInt8))) else (caulkerlaw05_NumWhole.j0 k a1 a2 bt188.1 bt188.2 (IntKind.u64.wrap (a1)) (IntKind.u64.wrap (a2)) (a0.toList == ([37] : List UInt8)))))))) else (none))) = some r := h
 clear h
 replace H := Option.bind_eq_some_iff.mp H
 obtain ⟨t187, A40, H⟩ := H
 replace H : (if t187 = true then ((num_Op.f k a0 a1 a2).bind fun bt188 => (if a0.toList = ([43] : List UInt8) then (if bt188.2 = 0 then (some ((IntKind.u64.wrap (bt188.1)) == (IntKind.u64.wrap ((IntKind.u64.wrap (a1)) + (IntKind.u64.wrap (a2)))))) else (none)) else (if a0.toList = ([45] : List UInt8) then (if bt188.2 = 0 then (some ((IntKind.u64.wrap ((IntKind.u64.wrap (bt188.1)) + (IntKind.u64.wrap (a2)))) == (IntKind.u64.wrap (a1)))) else (none)) else (if a0.toList = ([42] : List UInt8) then (if bt188.2 = 0 then (if (IntKind.u64.wrap (bt188.1)) = (IntKind.u64.wrap ((IntKind.u64.wrap (a1)) * (IntKind.u64.wrap (a2)))) then ((num_Neg.f bt188.1).bind fun t190 => (some ((IntKind.u64.wrap ((IntKind.u64.wrap (t190)) + (IntKind.u64.wrap (bt188.1)))) == 0))) else (none)) else (none)) else (if a0.toList = ([47] : List UInt8) then (caulkerlaw05_NumWhole.j0 k a1 a2 bt188.1 bt188.2 (IntKind.u64.wrap (a1)) (IntKind.u64.wrap (a2)) (a0.toList == ([47] : List UInt8))) else (caulkerlaw05_NumWhole.j0 k a1 a2 bt188.1 bt188.2 (IntKind.u64.wrap (a1)) (IntKind.u64.wrap (a2)) (a0.toList == ([37] : List UInt8)))))))) else (none)) = some r := H
 have A4 := Aside0.mk A40
 clear A40
 by_cases c5 : t187 = true
 ·subst c5
  have H1 : ((num_Op.f k a0 a1 a2).bind fun bt188 => (if a0.toList = ([43] : List UInt8) then (if bt188.2 = 0 then (some ((IntKind.u64.wrap (bt188.1)) == (IntKind.u64.wrap ((IntKind.u64.wrap (a1)) + (IntKind.u64.wrap (a2)))))) else (none)) else (if a0.toList = ([45] : List UInt8) then (if bt188.2 = 0 then (some ((IntKind.u64.wrap ((IntKind.u64.wrap (bt188.1)) + (IntKind.u64.wrap (a2)))) == (IntKind.u64.wrap (a1)))) else (none)) else (if a0.toList = ([42] : List UInt8) then (if bt188.2 = 0 then (if (IntKind.u64.wrap (bt188.1)) = (IntKind.u64.wrap ((IntKind.u64.wrap (a1)) * (IntKind.u64.wrap (a2)))) then ((num_Neg.f bt188.1).bind fun t190 => (some ((IntKind.u64.wrap ((IntKind.u64.wrap (t190)) + (IntKind.u64.wrap (bt188.1)))) == 0))) else (none)) else (none)) else (if a0.toList = ([47] : List UInt8) then (caulkerlaw05_NumWhole.j0 k a1 a2 bt188.1 bt188.2 (IntKind.u64.wrap (a1)) (IntKind.u64.wrap (a2)) (a0.toList == ([47] : List UInt8))) else (caulkerlaw05_NumWhole.j0 k a1 a2 bt188.1 bt188.2 (IntKind.u64.wrap (a1)) (IntKind.u64.wrap (a2)) (a0.toList == ([37] : List UInt8)))))))) = some r := by rw [if_pos rfl] at H; exact H
  clear H
  have H := H1
  clear H1
  replace H := Option.bind_eq_some_iff.mp H
  obtain ⟨⟨t188, t189⟩, A60, H⟩ := H
  replace H : (if a0.toList = ([43] : List UInt8) then (if t189 = 0 then (some ((IntKind.u64.wrap (t188)) == (IntKind.u64.wrap ((IntKind.u64.wrap (a1)) + (IntKind.u64.wrap (a2)))))) else (none)) else (if a0.toList = ([45] : List UInt8) then (if t189 = 0 then (some ((IntKind.u64.wrap ((IntKind.u64.wrap (t188)) + (IntKind.u64.wrap (a2)))) == (IntKind.u64.wrap (a1)))) else (none)) else (if a0.toList = ([42] : List UInt8) then (if t189 = 0 then (if (IntKind.u64.wrap (t188)) = (IntKind.u64.wrap ((IntKind.u64.wrap (a1)) * (IntKind.u64.wrap (a2)))) then ((num_Neg.f t188).bind fun t190 => (some ((IntKind.u64.wrap ((IntKind.u64.wrap (t190)) + (IntKind.u64.wrap (t188)))) == 0))) else (none)) else (none)) else (if a0.toList = ([47] : List UInt8) then (caulkerlaw05_NumWhole.j0 k a1 a2 t188 t189 (IntKind.u64.wrap (a1)) (IntKind.u64.wrap (a2)) (a0.toList == ([47] : List UInt8))) else (caulkerlaw05_NumWhole.j0 k a1 a2 t188 t189 (IntKind.u64.wrap (a1)) (IntKind.u64.wrap (a2)) (a0.toList == ([37] : List UInt8))))))) = some r := H
  have A6 := Aside0.mk A60
  clear A60
  by_cases c7 : a0.toList = ([43] : List UInt8)
  ·rw [if_pos c7] at H
   have c7b0 : (a0.toList == ([43] : List UInt8)) = true := beq_iff_eq.mpr c7
   have c7b1 : (a0.toList != ([43] : List UInt8)) = false := bne_eq_false_iff_eq.mpr c7
   clear c7
   by_cases c8 : t189 = 0
   ·rw [if_pos c8] at H
    have c8b0 : (t189 == 0) = true := beq_iff_eq.mpr c8
    have c8b1 : (t189 != 0) = false := bne_eq_false_iff_eq.mpr c8
    clear c8
    obtain rfl := Option.some.inj H
    go_enter Tryd.func6, Tryd.ntmps6
    go_wp2_with (first | ((with_reducible refine gate_callee (f := 10) rfl ?_); refine goesL_ (some 17) rfl rfl Tryd.func10 (by kernel_rfl) rfl #[] rfl (by (try simp only [List.map_toArray, List.map_cons, List.map_nil]); first | done | rfl | (simp only [List.length_drop, List.length_take]; rfl)) ?_; (with_reducible refine (caulkerlaw05_reckons.calls k  true _ A4.out ?gv).mono ?_); (case gv => first | exact LexW.GV.later HGV.out (pxb HB) | (repeat (first | exact HGV.out | apply LexW.GV.drewN))); rintro e w9 ⟨rfl, hb⟩; refine ⟨_, rfl, ?_⟩; have n0_ := pxs HB hb; clear HB; have HB := n0_; clear n0_; (try clear hb); (try clear hb2); (try clear hk); (try clear hi)) | ((with_reducible refine gate_callee (f := 21) rfl ?_); refine goesL_ (some 23) rfl rfl Tryd.func21 (by kernel_rfl) rfl #[.string a0, .int .i64 a1, .int .i64 a2] rfl (by (try simp only [List.map_toArray, List.map_cons, List.map_nil]); first | done | rfl | (simp only [List.length_drop, List.length_take]; rfl)) ?_; (with_reducible refine (num_Op.calls k a0 a1 a2 t188 t189 _ A6.out).mono ?_); rintro e w' ⟨rfl, ⟨nd, rfl⟩⟩; refine ⟨_, rfl, ?_⟩))
    go_ret
    exact ⟨by first | rfl | (simp [errW_none, errW_some] <;> rfl) | (simp [*, errW_none, errW_some] <;> rfl), pxb HB⟩
   ·rw [if_neg c8] at H
    exact absurd H (by simp)
  ·rw [if_neg c7] at H
   have c7b0 : (a0.toList == ([43] : List UInt8)) = false := beq_eq_false_iff_ne.mpr c7
   have c7b1 : (a0.toList != ([43] : List UInt8)) = true := bne_iff_ne.mpr c7
   by_cases c10 : a0.toList = ([45] : List UInt8)
   ·rw [if_pos c10] at H
    have c10b0 : (a0.toList == ([45] : List UInt8)) = true := beq_iff_eq.mpr c10
    have c10b1 : (a0.toList != ([45] : List UInt8)) = false := bne_eq_false_iff_eq.mpr c10
    clear c10
    by_cases c11 : t189 = 0
    ·rw [if_pos c11] at H
     have c11b0 : (t189 == 0) = true := beq_iff_eq.mpr c11
     have c11b1 : (t189 != 0) = false := bne_eq_false_iff_eq.mpr c11
     clear c11
     obtain rfl := Option.some.inj H
     go_enter Tryd.func6, Tryd.ntmps6
     go_wp2_with (first | ((with_reducible refine gate_callee (f := 10) rfl ?_); refine goesL_ (some 17) rfl rfl Tryd.func10 (by kernel_rfl) rfl #[] rfl (by (try simp only [List.map_toArray, List.map_cons, List.map_nil]); first | done | rfl | (simp only [List.length_drop, List.length_take]; rfl)) ?_; (with_reducible refine (caulkerlaw05_reckons.calls k  true _ A4.out ?gv).mono ?_); (case gv => first | exact LexW.GV.later HGV.out (pxb HB) | (repeat (first | exact HGV.out | apply LexW.GV.drewN))); rintro e w12 ⟨rfl, hb⟩; refine ⟨_, rfl, ?_⟩; have n0_ := pxs HB hb; clear HB; have HB := n0_; clear n0_; (try clear hb); (try clear hb2); (try clear hk); (try clear hi)) | ((with_reducible refine gate_callee (f := 21) rfl ?_); refine goesL_ (some 23) rfl rfl Tryd.func21 (by kernel_rfl) rfl #[.string a0, .int .i64 a1, .int .i64 a2] rfl (by (try simp only [List.map_toArray, List.map_cons, List.map_nil]); first | done | rfl | (simp only [List.length_drop, List.length_take]; rfl)) ?_; (with_reducible refine (num_Op.calls k a0 a1 a2 t188 t189 _ A6.out).mono ?_); rintro e w' ⟨rfl, ⟨nd, rfl⟩⟩; refine ⟨_, rfl, ?_⟩))
     go_ret
     exact ⟨by first | rfl | (simp [errW_none, errW_some] <;> rfl) | (simp [*, errW_none, errW_some] <;> rfl), pxb HB⟩
    ·rw [if_neg c11] at H
     exact absurd H (by simp)
   ·rw [if_neg c10] at H
    have c10b0 : (a0.toList == ([45] : List UInt8)) = false := beq_eq_false_iff_ne.mpr c10
    have c10b1 : (a0.toList != ([45] : List UInt8)) = true := bne_iff_ne.mpr c10
    by_cases c13 : a0.toList = ([42] : List UInt8)
    ·rw [if_pos c13] at H
     have c13b0 : (a0.toList == ([42] : List UInt8)) = true := beq_iff_eq.mpr c13
     have c13b1 : (a0.toList != ([42] : List UInt8)) = false := bne_eq_false_iff_eq.mpr c13
     clear c13
     by_cases c14 : t189 = 0
     ·rw [if_pos c14] at H
      have c14b0 : (t189 == 0) = true := beq_iff_eq.mpr c14
      have c14b1 : (t189 != 0) = false := bne_eq_false_iff_eq.mpr c14
      clear c14
      by_cases c15 : (IntKind.u64.wrap (t188)) = (IntKind.u64.wrap ((IntKind.u64.wrap (a1)) * (IntKind.u64.wrap (a2))))
      ·rw [if_pos c15] at H
       have c15b0 : ((IntKind.u64.wrap (t188)) == (IntKind.u64.wrap ((IntKind.u64.wrap (a1)) * (IntKind.u64.wrap (a2))))) = true := beq_iff_eq.mpr c15
       have c15b1 : ((IntKind.u64.wrap (t188)) != (IntKind.u64.wrap ((IntKind.u64.wrap (a1)) * (IntKind.u64.wrap (a2))))) = false := bne_eq_false_iff_eq.mpr c15
       clear c15
       replace H := Option.bind_eq_some_iff.mp H
       obtain ⟨t190, A160, H⟩ := H
       replace H : (some ((IntKind.u64.wrap ((IntKind.u64.wrap (t190)) + (IntKind.u64.wrap (t188)))) == 0)) = some r := H
       have A16 := Aside0.mk A160
       clear A160
       obtain rfl := Option.some.inj H
       go_enter Tryd.func6, Tryd.ntmps6
       go_wp2_with (first | ((with_reducible refine gate_callee (f := 10) rfl ?_); refine goesL_ (some 17) rfl rfl Tryd.func10 (by kernel_rfl) rfl #[] rfl (by (try simp only [List.map_toArray, List.map_cons, List.map_nil]); first | done | rfl | (simp only [List.length_drop, List.length_take]; rfl)) ?_; (with_reducible refine (caulkerlaw05_reckons.calls k  true _ A4.out ?gv).mono ?_); (case gv => first | exact LexW.GV.later HGV.out (pxb HB) | (repeat (first | exact HGV.out | apply LexW.GV.drewN))); rintro e w17 ⟨rfl, hb⟩; refine ⟨_, rfl, ?_⟩; have n0_ := pxs HB hb; clear HB; have HB := n0_; clear n0_; (try clear hb); (try clear hb2); (try clear hk); (try clear hi)) | ((with_reducible refine gate_callee (f := 21) rfl ?_); refine goesL_ (some 23) rfl rfl Tryd.func21 (by kernel_rfl) rfl #[.string a0, .int .i64 a1, .int .i64 a2] rfl (by (try simp only [List.map_toArray, List.map_cons, List.map_nil]); first | done | rfl | (simp only [List.length_drop, List.length_take]; rfl)) ?_; (with_reducible refine (num_Op.calls k a0 a1 a2 t188 t189 _ A6.out).mono ?_); rintro e w' ⟨rfl, ⟨nd, rfl⟩⟩; refine ⟨_, rfl, ?_⟩) | (go_at_call 22; (with_reducible refine (num_Neg.calls t188 t190 _ A16.out).mono ?_); rintro e w' ⟨rfl, ⟨nd, rfl⟩⟩))
       go_ret
       exact ⟨by first | rfl | (simp [errW_none, errW_some] <;> rfl) | (simp [*, errW_none, errW_some] <;> rfl), pxb HB⟩
      ·rw [if_neg c15] at H
       exact absurd H (by simp)
     ·rw [if_neg c14] at H
      exact absurd H (by simp)
    ·rw [if_neg c13] at H
     have c13b0 : (a0.toList == ([42] : List UInt8)) = false := beq_eq_false_iff_ne.mpr c13
     have c13b1 : (a0.toList != ([42] : List UInt8)) = true := bne_iff_ne.mpr c13
     have HC18 := Aside0.mk H
     clear H
     go_enter Tryd.func6, Tryd.ntmps6
     go_upto_if 76 with (first | ((with_reducible refine gate_callee (f := 10) rfl ?_); refine goesL_ (some 17) rfl rfl Tryd.func10 (by kernel_rfl) rfl #[] rfl (by (try simp only [List.map_toArray, List.map_cons, List.map_nil]); first | done | rfl | (simp only [List.length_drop, List.length_take]; rfl)) ?_; (with_reducible refine (caulkerlaw05_reckons.calls k  true _ A4.out ?gv).mono ?_); (case gv => first | exact LexW.GV.later HGV.out (pxb HB) | (repeat (first | exact HGV.out | apply LexW.GV.drewN))); rintro e w19 ⟨rfl, hb⟩; refine ⟨_, rfl, ?_⟩; have n0_ := pxs HB hb; clear HB; have HB := n0_; clear n0_; (try clear hb); (try clear hb2); (try clear hk); (try clear hi)) | ((with_reducible refine gate_callee (f := 21) rfl ?_); refine goesL_ (some 23) rfl rfl Tryd.func21 (by kernel_rfl) rfl #[.string a0, .int .i64 a1, .int .i64 a2] rfl (by (try simp only [List.map_toArray, List.map_cons, List.map_nil]); first | done | rfl | (simp only [List.length_drop, List.length_take]; rfl)) ?_; (with_reducible refine (num_Op.calls k a0 a1 a2 t188 t189 _ A6.out).mono ?_); rintro e w' ⟨rfl, ⟨nd, rfl⟩⟩; refine ⟨_, rfl, ?_⟩))
     (try simp only [Act.put, List.setIfInBounds_toArray, List.set_cons_zero, List.set_cons_succ])
     go_cut [76] (fun v76 wc => ∃ (kq : Nat) (x76_17 : Bool), v76 = .bool x76_17 ∧ Aside0 (caulkerlaw05_NumWhole.j0 kq a1 a2 t188 t189 (IntKind.u64.wrap (a1)) (IntKind.u64.wrap (a2)) x76_17 = some r) ∧ Aside0 (kq ≤ k) ∧ Aside0 (Below w.heap.size w wc))
     case first =>
      have H := HC18.out
      clear HC18
      by_cases c20 : a0.toList = ([47] : List UInt8)
      ·rw [if_pos c20] at H
       have c20b0 : (a0.toList == ([47] : List UInt8)) = true := beq_iff_eq.mpr c20
       have c20b1 : (a0.toList != ([47] : List UInt8)) = false := bne_eq_false_iff_eq.mpr c20
       clear c20
       (first | rw [c20b0] | (simp only [i64_w, i32_w]; rw [c20b0]) | skip)
       have H' := Aside0.mk H
       clear H
       go_wp2
       go_meet
       case rel => exact ⟨_, ((a0.toList == ([47] : List UInt8))), (by first | rfl | (simp; done) | (simp [*]; done)), H', ⟨by first | omega | exact Nat.le_refl _⟩, ⟨pxb HB⟩⟩
      ·rw [if_neg c20] at H
       have c20b0 : (a0.toList == ([47] : List UInt8)) = false := beq_eq_false_iff_ne.mpr c20
       have c20b1 : (a0.toList != ([47] : List UInt8)) = true := bne_iff_ne.mpr c20
       (first | rw [c20b0] | (simp only [i64_w, i32_w]; rw [c20b0]) | skip)
       have H' := Aside0.mk H
       clear H
       go_wp2
       go_meet
       case rel => exact ⟨_, ((a0.toList == ([37] : List UInt8))), (by first | rfl | (simp; done) | (simp [*]; done)), H', ⟨by first | omega | exact Nat.le_refl _⟩, ⟨pxb HB⟩⟩
     case rest =>
      clear HC18
      try clear c1
      try clear c2
      try clear p2
      try clear c5
      try clear c6
      try clear c7
      try clear c7b0
      try clear c7b1
      try clear c8
      try clear c8b0
      try clear c8b1
      try clear c10
      try clear c10b0
      try clear c10b1
      try clear c11
      try clear c11b0
      try clear c11b1
      try clear c13
      try clear c13b0
      try clear c13b1
      try clear c14
      try clear c14b0
      try clear c14b1
      try clear c15
      try clear c15b0
      try clear c15b1
      try clear c20
      try clear c20b0
      try clear c20b1
      obtain ⟨kq, x76_17, rfl, HA, HJ17, HB⟩ := hcut
      cases kq with
      | zero => exact absurd HA.out (by simp [caulkerlaw05_NumWhole.j0])
      | succ kj17 =>
       have H := HA.out
       clear HA
       simp only [caulkerlaw05_NumWhole.j0] at H
       by_cases c21 : x76_17 = true
       ·subst c21
        have H1 : (if a2 = 0 then (if t189 = 1 then (some (t188 == 0)) else (none)) else ((num_Op.f kj17 (⟨#[47]⟩ : ByteArray) a1 a2).bind fun bt191 => ((num_Op.f kj17 (⟨#[37]⟩ : ByteArray) a1 a2).bind fun bt193 => (if (wrap64 ((wrap64 (t189 + bt191.2)) + bt193.2)) = 0 then (if (IntKind.u64.wrap ((IntKind.u64.wrap ((IntKind.u64.wrap (bt191.1)) * (IntKind.u64.wrap (a2)))) + (IntKind.u64.wrap (bt193.1)))) = (IntKind.u64.wrap (a1)) then (if bt193.1 = 0 then (caulkerlaw05_NumWhole.j1 kj17 a2 (IntKind.u64.wrap (a2)) bt193.1 false) else (caulkerlaw05_NumWhole.j1 kj17 a2 (IntKind.u64.wrap (a2)) bt193.1 ((decide (bt193.1 < 0)) != (decide (a1 < 0))))) else (caulkerlaw05_NumWhole.j1 kj17 a2 (IntKind.u64.wrap (a2)) bt193.1 true)) else (caulkerlaw05_NumWhole.j1 kj17 a2 (IntKind.u64.wrap (a2)) bt193.1 true))))) = some r := by rw [if_pos rfl] at H; exact H
        clear H
        have H := H1
        clear H1
        by_cases c22 : a2 = 0
        ·rw [if_pos c22] at H
         have c22b0 : (a2 == 0) = true := beq_iff_eq.mpr c22
         have c22b1 : (a2 != 0) = false := bne_eq_false_iff_eq.mpr c22
         clear c22
         by_cases c23 : t189 = 1
         ·rw [if_pos c23] at H
          have c23b0 : (t189 == 1) = true := beq_iff_eq.mpr c23
          have c23b1 : (t189 != 1) = false := bne_eq_false_iff_eq.mpr c23
          clear c23
          obtain rfl := Option.some.inj H
          go_wp2
          go_ret
          exact ⟨by first | rfl | (simp [errW_none, errW_some] <;> rfl) | (simp [*, errW_none, errW_some] <;> rfl), pxb HB⟩
         ·rw [if_neg c23] at H
          exact absurd H (by simp)
        ·rw [if_neg c22] at H
         have c22b0 : (a2 == 0) = false := beq_eq_false_iff_ne.mpr c22
         have c22b1 : (a2 != 0) = true := bne_iff_ne.mpr c22
         replace H := Option.bind_eq_some_iff.mp H
         obtain ⟨⟨t191, t192⟩, A240, H⟩ := H
         replace H : ((num_Op.f kj17 (⟨#[37]⟩ : ByteArray) a1 a2).bind fun bt193 => (if (wrap64 ((wrap64 (t189 + t192)) + bt193.2)) = 0 then (if (IntKind.u64.wrap ((IntKind.u64.wrap ((IntKind.u64.wrap (t191)) * (IntKind.u64.wrap (a2)))) + (IntKind.u64.wrap (bt193.1)))) = (IntKind.u64.wrap (a1)) then (if bt193.1 = 0 then (caulkerlaw05_NumWhole.j1 kj17 a2 (IntKind.u64.wrap (a2)) bt193.1 false) else (caulkerlaw05_NumWhole.j1 kj17 a2 (IntKind.u64.wrap (a2)) bt193.1 ((decide (bt193.1 < 0)) != (decide (a1 < 0))))) else (caulkerlaw05_NumWhole.j1 kj17 a2 (IntKind.u64.wrap (a2)) bt193.1 true)) else (caulkerlaw05_NumWhole.j1 kj17 a2 (IntKind.u64.wrap (a2)) bt193.1 true))) = some r := H
         have A24 := Aside0.mk A240
         clear A240
         replace H := Option.bind_eq_some_iff.mp H
         obtain ⟨⟨t193, t194⟩, A250, H⟩ := H
         replace H : (if (wrap64 ((wrap64 (t189 + t192)) + t194)) = 0 then (if (IntKind.u64.wrap ((IntKind.u64.wrap ((IntKind.u64.wrap (t191)) * (IntKind.u64.wrap (a2)))) + (IntKind.u64.wrap (t193)))) = (IntKind.u64.wrap (a1)) then (if t193 = 0 then (caulkerlaw05_NumWhole.j1 kj17 a2 (IntKind.u64.wrap (a2)) t193 false) else (caulkerlaw05_NumWhole.j1 kj17 a2 (IntKind.u64.wrap (a2)) t193 ((decide (t193 < 0)) != (decide (a1 < 0))))) else (caulkerlaw05_NumWhole.j1 kj17 a2 (IntKind.u64.wrap (a2)) t193 true)) else (caulkerlaw05_NumWhole.j1 kj17 a2 (IntKind.u64.wrap (a2)) t193 true)) = some r := H
         have A25 := Aside0.mk A250
         clear A250
         have HC26 := Aside0.mk H
         clear H
         go_upto_region 18 with (first | ((with_reducible refine gate_callee (f := 21) rfl ?_); refine goesL_ (some 90) rfl rfl Tryd.func21 (by kernel_rfl) rfl #[.string (⟨#[47]⟩ : ByteArray), .int .i64 a1, .int .i64 a2] rfl (by (try simp only [List.map_toArray, List.map_cons, List.map_nil]); first | done | rfl | (simp only [List.length_drop, List.length_take]; rfl)) ?_; (with_reducible refine (num_Op.calls kj17 (⟨#[47]⟩ : ByteArray) a1 a2 t191 t192 _ A24.out).mono ?_); rintro e w' ⟨rfl, ⟨nd, rfl⟩⟩; refine ⟨_, rfl, ?_⟩) | ((with_reducible refine gate_callee (f := 21) rfl ?_); refine goesL_ (some 96) rfl rfl Tryd.func21 (by kernel_rfl) rfl #[.string (⟨#[37]⟩ : ByteArray), .int .i64 a1, .int .i64 a2] rfl (by (try simp only [List.map_toArray, List.map_cons, List.map_nil]); first | done | rfl | (simp only [List.length_drop, List.length_take]; rfl)) ?_; (with_reducible refine (num_Op.calls kj17 (⟨#[37]⟩ : ByteArray) a1 a2 t193 t194 _ A25.out).mono ?_); rintro e w' ⟨rfl, ⟨nd, rfl⟩⟩; refine ⟨_, rfl, ?_⟩))
         (try simp only [Act.put, List.setIfInBounds_toArray, List.set_cons_zero, List.set_cons_succ])
         go_cut [126] (fun v126 wc => ∃ (kq : Nat) (x126_25 : Bool), v126 = .bool x126_25 ∧ Aside0 (caulkerlaw05_NumWhole.j1 kq a2 (IntKind.u64.wrap (a2)) t193 x126_25 = some r) ∧ Aside0 (kq ≤ kj17) ∧ Aside0 (Below w.heap.size w wc))
         case first =>
          have H := HC26.out
          clear HC26
          by_cases c27 : (wrap64 ((wrap64 (t189 + t192)) + t194)) = 0
          ·rw [if_pos c27] at H
           have c27b0 : ((wrap64 ((wrap64 (t189 + t192)) + t194)) == 0) = true := beq_iff_eq.mpr c27
           have c27b1 : ((wrap64 ((wrap64 (t189 + t192)) + t194)) != 0) = false := bne_eq_false_iff_eq.mpr c27
           clear c27
           (first | rw [c27b0] | (simp only [i64_w, i32_w]; rw [c27b0]) | skip)
           by_cases c28 : (IntKind.u64.wrap ((IntKind.u64.wrap ((IntKind.u64.wrap (t191)) * (IntKind.u64.wrap (a2)))) + (IntKind.u64.wrap (t193)))) = (IntKind.u64.wrap (a1))
           ·rw [if_pos c28] at H
            have c28b0 : ((IntKind.u64.wrap ((IntKind.u64.wrap ((IntKind.u64.wrap (t191)) * (IntKind.u64.wrap (a2)))) + (IntKind.u64.wrap (t193)))) == (IntKind.u64.wrap (a1))) = true := beq_iff_eq.mpr c28
            have c28b1 : ((IntKind.u64.wrap ((IntKind.u64.wrap ((IntKind.u64.wrap (t191)) * (IntKind.u64.wrap (a2)))) + (IntKind.u64.wrap (t193)))) != (IntKind.u64.wrap (a1))) = false := bne_eq_false_iff_eq.mpr c28
            clear c28
            by_cases c29 : t193 = 0
            ·rw [if_pos c29] at H
             have c29b0 : (t193 == 0) = true := beq_iff_eq.mpr c29
             have c29b1 : (t193 != 0) = false := bne_eq_false_iff_eq.mpr c29
             clear c29
             have H' := Aside0.mk H
             clear H
             go_wp2
             go_meet
             case rel => exact ⟨_, (false), (by first | rfl | (simp; done) | (simp [*]; done)), H', ⟨by have := HJ17.out; first | omega | exact Nat.le_refl _⟩, ⟨pxb HB⟩⟩
            ·rw [if_neg c29] at H
             have c29b0 : (t193 == 0) = false := beq_eq_false_iff_ne.mpr c29
             have c29b1 : (t193 != 0) = true := bne_iff_ne.mpr c29
             have H' := Aside0.mk H
             clear H
             go_wp2
             go_meet
             case rel => exact ⟨_, (((decide (t193 < 0)) != (decide (a1 < 0)))), (by first | rfl | (simp; done) | (simp [*]; done)), H', ⟨by have := HJ17.out; first | omega | exact Nat.le_refl _⟩, ⟨pxb HB⟩⟩
           ·rw [if_neg c28] at H
            have c28b0 : ((IntKind.u64.wrap ((IntKind.u64.wrap ((IntKind.u64.wrap (t191)) * (IntKind.u64.wrap (a2)))) + (IntKind.u64.wrap (t193)))) == (IntKind.u64.wrap (a1))) = false := beq_eq_false_iff_ne.mpr c28
            have c28b1 : ((IntKind.u64.wrap ((IntKind.u64.wrap ((IntKind.u64.wrap (t191)) * (IntKind.u64.wrap (a2)))) + (IntKind.u64.wrap (t193)))) != (IntKind.u64.wrap (a1))) = true := bne_iff_ne.mpr c28
            have H' := Aside0.mk H
            clear H
            go_wp2
            go_meet
            case rel => exact ⟨_, (true), (by first | rfl | (simp; done) | (simp [*]; done)), H', ⟨by have := HJ17.out; first | omega | exact Nat.le_refl _⟩, ⟨pxb HB⟩⟩
          ·rw [if_neg c27] at H
           have c27b0 : ((wrap64 ((wrap64 (t189 + t192)) + t194)) == 0) = false := beq_eq_false_iff_ne.mpr c27
           have c27b1 : ((wrap64 ((wrap64 (t189 + t192)) + t194)) != 0) = true := bne_iff_ne.mpr c27
           (first | rw [c27b0] | (simp only [i64_w, i32_w]; rw [c27b0]) | skip)
           have H' := Aside0.mk H
           clear H
           go_wp2
           go_meet
           case rel => exact ⟨_, (true), (by first | rfl | (simp; done) | (simp [*]; done)), H', ⟨by have := HJ17.out; first | omega | exact Nat.le_refl _⟩, ⟨pxb HB⟩⟩
         case rest =>
          clear HC26
          try clear c1
          try clear c2
          try clear p2
          try clear c5
          try clear c6
          try clear p6
          try clear c7
          try clear c7b0
          try clear c7b1
          try clear c8
          try clear c8b0
          try clear c8b1
          try clear c10
          try clear c10b0
          try clear c10b1
          try clear c11
          try clear c11b0
          try clear c11b1
          try clear c13
          try clear c13b0
          try clear c13b1
          try clear c14
          try clear c14b0
          try clear c14b1
          try clear c15
          try clear c15b0
          try clear c15b1
          try clear c20
          try clear c20b0
          try clear c20b1
          try clear c21
          try clear c22
          try clear c22b0
          try clear c22b1
          try clear c23
          try clear c23b0
          try clear c23b1
          try clear c27
          try clear c27b0
          try clear c27b1
          try clear c28
          try clear c28b0
          try clear c28b1
          try clear c29
          try clear c29b0
          try clear c29b1
          try clear p2
          obtain ⟨kq, x126_25, rfl, HA, HJ25, HB⟩ := hcut
          cases kq with
          | zero => exact absurd HA.out (by simp [caulkerlaw05_NumWhole.j1])
          | succ kj25 =>
           have H := HA.out
           clear HA
           simp only [caulkerlaw05_NumWhole.j1] at H
           by_cases c30 : x126_25 = true
           ·subst c30
            have H1 : (none) = some r := by rw [if_pos rfl] at H; exact H
            clear H
            have H := H1
            clear H1
            exact absurd H (by simp)
           ·replace c30 := Bool.eq_false_iff.mpr c30
            subst c30
            have H1 : (if t193 < 0 then (if a2 < 0 then (some (decide ((IntKind.u64.wrap (-(IntKind.u64.wrap (t193)))) < (IntKind.u64.wrap (-(IntKind.u64.wrap (a2))))))) else (some (decide ((IntKind.u64.wrap (-(IntKind.u64.wrap (t193)))) < (IntKind.u64.wrap (a2)))))) else (if a2 < 0 then (some (decide ((IntKind.u64.wrap (t193)) < (IntKind.u64.wrap (-(IntKind.u64.wrap (a2))))))) else (some (decide ((IntKind.u64.wrap (t193)) < (IntKind.u64.wrap (a2))))))) = some r := by rw [if_neg (show ¬ (false = true) by decide)] at H; exact H
            clear H
            have H := H1
            clear H1
            by_cases c31 : t193 < 0
            ·rw [if_pos c31] at H
             have c31b0 : decide (t193 < 0) = true := decide_eq_true c31
             clear c31
             by_cases c32 : a2 < 0
             ·rw [if_pos c32] at H
              have c32b0 : decide (a2 < 0) = true := decide_eq_true c32
              clear c32
              obtain rfl := Option.some.inj H
              go_wp2
              go_ret
              exact ⟨by first | rfl | (simp [errW_none, errW_some] <;> rfl) | (simp [*, errW_none, errW_some] <;> rfl), pxb HB⟩
             ·rw [if_neg c32] at H
              have c32b0 : decide (a2 < 0) = false := decide_eq_false c32
              clear c32
              obtain rfl := Option.some.inj H
              go_wp2
              go_ret
              exact ⟨by first | rfl | (simp [errW_none, errW_some] <;> rfl) | (simp [*, errW_none, errW_some] <;> rfl), pxb HB⟩
            ·rw [if_neg c31] at H
             have c31b0 : decide (t193 < 0) = false := decide_eq_false c31
             clear c31
             by_cases c33 : a2 < 0
             ·rw [if_pos c33] at H
              have c33b0 : decide (a2 < 0) = true := decide_eq_true c33
              clear c33
              obtain rfl := Option.some.inj H
              go_wp2
              go_ret
              exact ⟨by first | rfl | (simp [errW_none, errW_some] <;> rfl) | (simp [*, errW_none, errW_some] <;> rfl), pxb HB⟩
             ·rw [if_neg c33] at H
              have c33b0 : decide (a2 < 0) = false := decide_eq_false c33
              clear c33
              obtain rfl := Option.some.inj H
              go_wp2
              go_ret
              exact ⟨by first | rfl | (simp [errW_none, errW_some] <;> rfl) | (simp [*, errW_none, errW_some] <;> rfl), pxb HB⟩
       ·replace c21 := Bool.eq_false_iff.mpr c21
        subst c21
        have H1 : (if t189 = 3 then (some (t188 == 0)) else (none)) = some r := by rw [if_neg (show ¬ (false = true) by decide)] at H; exact H
        clear H
        have H := H1
        clear H1
        by_cases c34 : t189 = 3
        ·rw [if_pos c34] at H
         have c34b0 : (t189 == 3) = true := beq_iff_eq.mpr c34
         have c34b1 : (t189 != 3) = false := bne_eq_false_iff_eq.mpr c34
         clear c34
         obtain rfl := Option.some.inj H
         go_wp2
         go_ret
         exact ⟨by first | rfl | (simp [errW_none, errW_some] <;> rfl) | (simp [*, errW_none, errW_some] <;> rfl), pxb HB⟩
        ·rw [if_neg c34] at H
         exact absurd H (by simp)
 ·replace c5 := Bool.eq_false_iff.mpr c5
  subst c5
  have H1 : (none) = some r := by rw [if_neg (show ¬ (false = true) by decide)] at H; exact H
  clear H
  have H := H1
  clear H1
  exact absurd H (by simp)

/-- THE ONE PURE STATEMENT of caulkerlaw05_NumWhole. -/
def caulkerlaw05_NumWhole.Pure : Prop := ∀ (a0 : ByteArray) (a1 : Int) (a2 : Int), a0.size ≤ 140737488351232 → (Lit.int .i64 a1).wf = true → (Lit.int .i64 a2).wf = true → ∃ k, caulkerlaw05_NumWhole.f k a0 a1 a2 = some true

end Go.Proofs.YtbnopcndjdpnkaaDoor.X
