/- What the program's functions answer, as Lean functions, and that each call does just that; no condition. Written by a program (px.py) out of the translation. -/
import Derived.Test.YtlcblkjgkaiadaaX0
import Derived.Test.YtlcblkjgkaiadaaX14
import Derived.Test.YtlcblkjgkaiadaaX16
import Derived.Test.YtlcblkjgkaiadaaX8
import Derived.Test.YtlcblkjgkaiadaaX13
import Derived.Test.YtlcblkjgkaiadaaX15
import Derived.Test.YtlcblkjgkaiadaaLexW
import Derived.Test.YtlcblkjgkaiadaaShort2
namespace Go.Proofs.Ytlcblkjgkaiadaa.X
open Go.RowKit Go.Proofs.YtlcblkjgkaiadaaW.PrintWords Go.Proofs.YtlcblkjgkaiadaaW.PrintLast Go.Proofs.YtlcblkjgkaiadaaW.PrintMore
attribute [local go_sem] max2_int min2_int max_two min_two max_three min_three max_four min_four   -- for this text's walks alone
set_option linter.unusedVariables false
set_option linter.unusedSimpArgs false

/-! ### caulkerlaw06_LexNames: function 6 -/
def caulkerlaw06_LexNames.j0 : Nat → ByteArray → Bool → Option (Bool)
 | 0, _, _ => none
 | k + 1, x0, x3 => (lex_Kept.f x0).bind fun t188 => ((caulkerref06_Kept.f k x0).bind fun t189 => (if (t188 != t189) = true then (none) else ((lex_Name.f k x0).bind fun t190 => (if x3 = true then (if (x0.size : Int) ≤ 64 then ((caulkerref06_Kept.f k x0).bind fun t191 => (some (t190 == (!t191)))) else (some (t190 == false))) else (some (t190 == false))))))
def caulkerlaw06_LexNames.f (k : Nat) (a0 : ByteArray) : Option (Bool) := (caulkerlaw06_cuts.f k).bind fun t186 => (if t186 = true then (if (a0.size : Int) > 200 then (some true) else (if a0.toList = ([] : List UInt8) then (caulkerlaw06_LexNames.j0 k a0 false) else ((caulkerref06_Word.f k a0 0).bind fun t187 => (caulkerlaw06_LexNames.j0 k a0 (t187 == (a0.size : Int)))))) else (none))
theorem caulkerlaw06_LexNames.mono_l : ∀ k, (∀ y0 y1, LeO (caulkerlaw06_LexNames.j0 k y0 y1) (caulkerlaw06_LexNames.j0 (k + 1) y0 y1))
 | 0 => fun _ _ r h => by simp [caulkerlaw06_LexNames.j0] at h
 | k + 1 => by
  have ih0 := caulkerlaw06_LexNames.mono_l k
  ·intro y0 y1
   unfold caulkerlaw06_LexNames.j0
   repeat' first
   | (with_reducible exact ih0 _ _)
   | (with_reducible exact caulkerlaw06_cuts.mono _)
   | (with_reducible exact caulkerref06_Kept.mono _ _)
   | (with_reducible exact caulkerref06_Word.mono _ _ _)
   | (with_reducible exact lex_Name.mono _ _)
   | (with_reducible exact LeO.refl _)
   | (with_reducible exact LeO.none _)
   | (with_reducible refine LeO.ite ?_ ?_)
   | (with_reducible refine LeO.bind ?_ (fun _ => ?_))
   | exact ih0 _ _
   | exact caulkerlaw06_cuts.mono _
   | exact caulkerref06_Kept.mono _ _
   | exact caulkerref06_Word.mono _ _ _
   | exact lex_Name.mono _ _
   | exact LeO.none _
   | refine LeO.ite ?_ ?_
   | refine LeO.bind ?_ (fun _ => ?_)
theorem caulkerlaw06_LexNames.mono : ∀ a0 k, LeO (caulkerlaw06_LexNames.f k a0) (caulkerlaw06_LexNames.f (k + 1) a0) := by
 intro a0 k
 have ih0 := caulkerlaw06_LexNames.mono_l k
 unfold caulkerlaw06_LexNames.f
 repeat' first
   | (with_reducible exact ih0 _ _)
   | (with_reducible exact caulkerlaw06_cuts.mono _)
   | (with_reducible exact caulkerref06_Kept.mono _ _)
   | (with_reducible exact caulkerref06_Word.mono _ _ _)
   | (with_reducible exact lex_Name.mono _ _)
   | (with_reducible exact LeO.refl _)
   | (with_reducible exact LeO.none _)
   | (with_reducible refine LeO.ite ?_ ?_)
   | (with_reducible refine LeO.bind ?_ (fun _ => ?_))
   | exact ih0 _ _
   | exact caulkerlaw06_cuts.mono _
   | exact caulkerref06_Kept.mono _ _
   | exact caulkerref06_Word.mono _ _ _
   | exact lex_Name.mono _ _
   | exact LeO.none _
   | refine LeO.ite ?_ ?_
   | refine LeO.bind ?_ (fun _ => ?_)
set_option maxHeartbeats 8000000 in
set_option maxRecDepth 100000 in
theorem caulkerlaw06_LexNames.calls (k : Nat) (a0 : ByteArray) (r : Bool) (w : World) (h : caulkerlaw06_LexNames.f k a0 = some r) (hgv : LexW.GV w) :
  Calls Try.prog 6 #[.string a0] w fun e w' => e = .returned (.bool r) ∧ Below w.heap.size w w' := by
 have HGV := Aside0.mk hgv
 clear hgv
 have HB := Aside0.mk (Below.refl w.heap.size w)
 have H : ((caulkerlaw06_cuts.f k).bind fun t186 => (if t186 = true then (if (a0.size : Int) > 200 then (some true) else (if a0.toList = ([] : List UInt8) then (caulkerlaw06_LexNames.j0 k a0 false) else ((caulkerref06_Word.f k a0 0).bind fun t187 => (caulkerlaw06_LexNames.j0 k a0 (t187 == (a0.size : Int)))))) else (none))) = some r := h
 clear h
 replace H := Option.bind_eq_some_iff.mp H
 obtain ⟨t186, A20, H⟩ := H
 replace H : (if t186 = true then (if (a0.size : Int) > 200 then (some true) else (if a0.toList = ([] : List UInt8) then (caulkerlaw06_LexNames.j0 k a0 false) else ((caulkerref06_Word.f k a0 0).bind fun t187 => (caulkerlaw06_LexNames.j0 k a0 (t187 == (a0.size : Int)))))) else (none)) = some r := H
 have A2 := Aside0.mk A20
 clear A20
 by_cases c3 : t186 = true
 ·subst c3
  have H1 : (if (a0.size : Int) > 200 then (some true) else (if a0.toList = ([] : List UInt8) then (caulkerlaw06_LexNames.j0 k a0 false) else ((caulkerref06_Word.f k a0 0).bind fun t187 => (caulkerlaw06_LexNames.j0 k a0 (t187 == (a0.size : Int)))))) = some r := by rw [if_pos rfl] at H; exact H
  clear H
  have H := H1
  clear H1
  by_cases c4 : (a0.size : Int) > 200
  ·rw [if_pos c4] at H
   have c4b0 : decide (200 < (a0.size : Int)) = true := decide_eq_true c4
   have c4b1 : decide (200 < a0.size) = true := decide_eq_true (by omega)
   clear c4
   obtain rfl := Option.some.inj H
   go_enter Try.func6, Try.ntmps6
   go_wp2_with (first | ((with_reducible refine gate_callee (f := 8) rfl ?_); refine goesL_ (some 4) rfl rfl Try.func8 (by kernel_rfl) rfl #[] rfl (by (try simp only [List.map_toArray, List.map_cons, List.map_nil]); first | done | rfl | (simp only [List.length_drop, List.length_take]; rfl)) ?_; (with_reducible refine (caulkerlaw06_cuts.calls k  true _ A2.out ?gv).mono ?_); (case gv => first | exact LexW.GV.later HGV.out (pxb HB) | (repeat (first | exact HGV.out | apply LexW.GV.drewN))); rintro e w5 ⟨rfl, hb⟩; refine ⟨_, rfl, ?_⟩; have n0_ := pxs HB hb; clear HB; have HB := n0_; clear n0_; (try clear hb); (try clear hb2); (try clear hk); (try clear hi)))
   go_ret
   exact ⟨by first | rfl | (simp [errW_none, errW_some] <;> rfl) | (simp [*, errW_none, errW_some] <;> rfl) | (simp [*, pxbeq, pxbne, errW_none, errW_some]; done), pxb HB⟩
  ·rw [if_neg c4] at H
   have c4b0 : decide (200 < (a0.size : Int)) = false := decide_eq_false c4
   have c4b1 : decide (200 < a0.size) = false := decide_eq_false (by omega)
   clear c4
   have HC6 := Aside0.mk H
   clear H
   go_enter Try.func6, Try.ntmps6
   go_upto_region 5 with (first | ((with_reducible refine gate_callee (f := 8) rfl ?_); refine goesL_ (some 4) rfl rfl Try.func8 (by kernel_rfl) rfl #[] rfl (by (try simp only [List.map_toArray, List.map_cons, List.map_nil]); first | done | rfl | (simp only [List.length_drop, List.length_take]; rfl)) ?_; (with_reducible refine (caulkerlaw06_cuts.calls k  true _ A2.out ?gv).mono ?_); (case gv => first | exact LexW.GV.later HGV.out (pxb HB) | (repeat (first | exact HGV.out | apply LexW.GV.drewN))); rintro e w7 ⟨rfl, hb⟩; refine ⟨_, rfl, ?_⟩; have n0_ := pxs HB hb; clear HB; have HB := n0_; clear n0_; (try clear hb); (try clear hb2); (try clear hk); (try clear hi)))
   (try simp only [Act.put, List.setIfInBounds_toArray, List.set_cons_zero, List.set_cons_succ])
   go_cut [3] (fun v3 wc => ∃ (kq : Nat) (x3_5 : Bool), v3 = .bool x3_5 ∧ Aside0 (caulkerlaw06_LexNames.j0 kq a0 x3_5 = some r) ∧ Aside0 (kq ≤ k) ∧ Aside0 (Below w.heap.size w wc))
   case first =>
    have H := HC6.out
    clear HC6
    by_cases c8 : a0.toList = ([] : List UInt8)
    ·rw [if_pos c8] at H
     have c8b0 : (a0.toList == ([] : List UInt8)) = true := beq_iff_eq.mpr c8
     (try (have c8b0e : (a0.toList.isEmpty) = true := by simpa only [pxbeq, pxbne] using c8b0))
     have c8b1 : (a0.toList != ([] : List UInt8)) = false := bne_eq_false_iff_eq.mpr c8
     (try (have c8b1e : ((!a0.toList.isEmpty)) = false := by simpa only [pxbeq, pxbne] using c8b1))
     clear c8
     (first | rw [c8b0] | (simp only [i64_w, i32_w]; rw [c8b0]) | skip)
     have H' := Aside0.mk H
     clear H
     go_wp2
     go_meet
     case rel => exact ⟨_, (false), (by first | rfl | (simp; done) | (simp [*]; done)), H', ⟨by first | omega | exact Nat.le_refl _⟩, ⟨pxb HB⟩⟩
    ·rw [if_neg c8] at H
     have c8b0 : (a0.toList == ([] : List UInt8)) = false := beq_eq_false_iff_ne.mpr c8
     (try (have c8b0e : (a0.toList.isEmpty) = false := by simpa only [pxbeq, pxbne] using c8b0))
     have c8b1 : (a0.toList != ([] : List UInt8)) = true := bne_iff_ne.mpr c8
     (try (have c8b1e : ((!a0.toList.isEmpty)) = true := by simpa only [pxbeq, pxbne] using c8b1))
     (first | rw [c8b0] | (simp only [i64_w, i32_w]; rw [c8b0]) | skip)
     replace H := Option.bind_eq_some_iff.mp H
     obtain ⟨t187, A90, H⟩ := H
     replace H : (caulkerlaw06_LexNames.j0 k a0 (t187 == (a0.size : Int))) = some r := H
     have A9 := Aside0.mk A90
     clear A90
     have H' := Aside0.mk H
     clear H
     go_wp2_with (first | (go_at_call 13; (with_reducible refine (caulkerref06_Word.calls k a0 0 t187 _ A9.out).mono ?_); rintro e w' ⟨rfl, ⟨nd, rfl⟩⟩))
     go_meet
     case rel => exact ⟨_, ((t187 == (a0.size : Int))), (by first | rfl | (simp; done) | (simp [*]; done)), H', ⟨by first | omega | exact Nat.le_refl _⟩, ⟨pxb HB⟩⟩
   case rest =>
    clear HC6
    try clear p2
    try clear c3
    try clear c4
    try clear c4b0
    try clear c4b1
    try clear c6
    try clear c8
    try clear c8b0
    try clear c8b1
    obtain ⟨kq, x3_5, rfl, HA, HJ5, HB⟩ := hcut
    cases kq with
    | zero => exact absurd HA.out (by simp [caulkerlaw06_LexNames.j0])
    | succ kj5 =>
     have H := HA.out
     clear HA
     simp only [caulkerlaw06_LexNames.j0] at H
     replace H := Option.bind_eq_some_iff.mp H
     obtain ⟨t188, A100, H⟩ := H
     replace H : ((caulkerref06_Kept.f kj5 a0).bind fun t189 => (if (t188 != t189) = true then (none) else ((lex_Name.f kj5 a0).bind fun t190 => (if x3_5 = true then (if (a0.size : Int) ≤ 64 then ((caulkerref06_Kept.f kj5 a0).bind fun t191 => (some (t190 == (!t191)))) else (some (t190 == false))) else (some (t190 == false)))))) = some r := H
     have A10 := Aside0.mk A100
     clear A100
     replace H := Option.bind_eq_some_iff.mp H
     obtain ⟨t189, A110, H⟩ := H
     replace H : (if (t188 != t189) = true then (none) else ((lex_Name.f kj5 a0).bind fun t190 => (if x3_5 = true then (if (a0.size : Int) ≤ 64 then ((caulkerref06_Kept.f kj5 a0).bind fun t191 => (some (t190 == (!t191)))) else (some (t190 == false))) else (some (t190 == false))))) = some r := H
     have A11 := Aside0.mk A110
     clear A110
     by_cases c12 : (t188 != t189) = true
     ·rw [if_pos c12] at H
      exact absurd H (by simp)
     ·rw [if_neg c12] at H
      have c12b0 : (t188 != t189) = false := by simpa using c12
      (try (have c12b1 : decide (t188 = t189) = true := by simpa using c12))
      (try (have c12b2 : (t188 == t189) = true := by simpa using c12))
      clear c12
      replace H := Option.bind_eq_some_iff.mp H
      obtain ⟨t190, A130, H⟩ := H
      replace H : (if x3_5 = true then (if (a0.size : Int) ≤ 64 then ((caulkerref06_Kept.f kj5 a0).bind fun t191 => (some (t190 == (!t191)))) else (some (t190 == false))) else (some (t190 == false))) = some r := H
      have A13 := Aside0.mk A130
      clear A130
      by_cases c14 : x3_5 = true
      ·subst c14
       have H1 : (if (a0.size : Int) ≤ 64 then ((caulkerref06_Kept.f kj5 a0).bind fun t191 => (some (t190 == (!t191)))) else (some (t190 == false))) = some r := by rw [if_pos rfl] at H; exact H
       clear H
       have H := H1
       clear H1
       by_cases c15 : (a0.size : Int) ≤ 64
       ·rw [if_pos c15] at H
        have c15b0 : decide ((a0.size : Int) ≤ 64) = true := decide_eq_true c15
        have c15b1 : decide (a0.size ≤ 64) = true := decide_eq_true (by omega)
        clear c15
        replace H := Option.bind_eq_some_iff.mp H
        obtain ⟨t191, A160, H⟩ := H
        replace H : (some (t190 == (!t191))) = some r := H
        have A16 := Aside0.mk A160
        clear A160
        obtain rfl := Option.some.inj H
        go_wp2_with (first | ((with_reducible refine gate_callee (f := 14) rfl ?_); refine goesL_ (some 19) rfl rfl Try.func14 (by kernel_rfl) rfl #[.string a0] rfl (by (try simp only [List.map_toArray, List.map_cons, List.map_nil]); first | done | rfl | (simp only [List.length_drop, List.length_take]; rfl)) ?_; (with_reducible refine (lex_Kept.calls a0 t188 _ A10.out ?gv).mono ?_); (case gv => first | exact LexW.GV.later HGV.out (pxb HB) | (repeat (first | exact HGV.out | apply LexW.GV.drewN))); rintro e w' ⟨rfl, ⟨nd, rfl⟩⟩; refine ⟨_, rfl, ?_⟩) | ((with_reducible refine gate_callee (f := 15) rfl ?_); refine goesL_ (some 21) rfl rfl Try.func15 (by kernel_rfl) rfl #[.string a0] rfl (by (try simp only [List.map_toArray, List.map_cons, List.map_nil]); first | done | rfl | (simp only [List.length_drop, List.length_take]; rfl)) ?_; (with_reducible refine (caulkerref06_Kept.calls kj5 a0 t189 _ A11.out).mono ?_); rintro e w17 ⟨rfl, hb⟩; refine ⟨_, rfl, ?_⟩; have n0_ := pxs HB hb; clear HB; have HB := n0_; clear n0_; (try clear hb); (try clear hb2); (try clear hk); (try clear hi)) | ((with_reducible refine gate_callee (f := 16) rfl ?_); refine goesL_ (some 24) rfl rfl Try.func16 (by kernel_rfl) rfl #[.string a0] rfl (by (try simp only [List.map_toArray, List.map_cons, List.map_nil]); first | done | rfl | (simp only [List.length_drop, List.length_take]; rfl)) ?_; (with_reducible refine (lex_Name.calls kj5 a0 t190 _ A13.out ?gv).mono ?_); (case gv => first | exact LexW.GV.later HGV.out (pxb HB) | (repeat (first | exact HGV.out | apply LexW.GV.drewN))); rintro e w' ⟨rfl, ⟨nd, rfl⟩⟩; refine ⟨_, rfl, ?_⟩) | (go_at_call 15; (with_reducible refine (caulkerref06_Kept.calls kj5 a0 t191 _ A16.out).mono ?_); rintro e w18 ⟨rfl, hb⟩; have n0_ := pxs HB hb; clear HB; have HB := n0_; clear n0_; (try clear hb); (try clear hb2); (try clear hk); (try clear hi)))
        go_ret
        exact ⟨by first | rfl | (simp [errW_none, errW_some] <;> rfl) | (simp [*, errW_none, errW_some] <;> rfl) | (simp [*, pxbeq, pxbne, errW_none, errW_some]; done), pxb HB⟩
       ·rw [if_neg c15] at H
        have c15b0 : decide ((a0.size : Int) ≤ 64) = false := decide_eq_false c15
        have c15b1 : decide (a0.size ≤ 64) = false := decide_eq_false (by omega)
        clear c15
        obtain rfl := Option.some.inj H
        go_wp2_with (first | ((with_reducible refine gate_callee (f := 14) rfl ?_); refine goesL_ (some 19) rfl rfl Try.func14 (by kernel_rfl) rfl #[.string a0] rfl (by (try simp only [List.map_toArray, List.map_cons, List.map_nil]); first | done | rfl | (simp only [List.length_drop, List.length_take]; rfl)) ?_; (with_reducible refine (lex_Kept.calls a0 t188 _ A10.out ?gv).mono ?_); (case gv => first | exact LexW.GV.later HGV.out (pxb HB) | (repeat (first | exact HGV.out | apply LexW.GV.drewN))); rintro e w' ⟨rfl, ⟨nd, rfl⟩⟩; refine ⟨_, rfl, ?_⟩) | ((with_reducible refine gate_callee (f := 15) rfl ?_); refine goesL_ (some 21) rfl rfl Try.func15 (by kernel_rfl) rfl #[.string a0] rfl (by (try simp only [List.map_toArray, List.map_cons, List.map_nil]); first | done | rfl | (simp only [List.length_drop, List.length_take]; rfl)) ?_; (with_reducible refine (caulkerref06_Kept.calls kj5 a0 t189 _ A11.out).mono ?_); rintro e w19 ⟨rfl, hb⟩; refine ⟨_, rfl, ?_⟩; have n0_ := pxs HB hb; clear HB; have HB := n0_; clear n0_; (try clear hb); (try clear hb2); (try clear hk); (try clear hi)) | ((with_reducible refine gate_callee (f := 16) rfl ?_); refine goesL_ (some 24) rfl rfl Try.func16 (by kernel_rfl) rfl #[.string a0] rfl (by (try simp only [List.map_toArray, List.map_cons, List.map_nil]); first | done | rfl | (simp only [List.length_drop, List.length_take]; rfl)) ?_; (with_reducible refine (lex_Name.calls kj5 a0 t190 _ A13.out ?gv).mono ?_); (case gv => first | exact LexW.GV.later HGV.out (pxb HB) | (repeat (first | exact HGV.out | apply LexW.GV.drewN))); rintro e w' ⟨rfl, ⟨nd, rfl⟩⟩; refine ⟨_, rfl, ?_⟩))
        go_ret
        exact ⟨by first | rfl | (simp [errW_none, errW_some] <;> rfl) | (simp [*, errW_none, errW_some] <;> rfl) | (simp [*, pxbeq, pxbne, errW_none, errW_some]; done), pxb HB⟩
      ·replace c14 := Bool.eq_false_iff.mpr c14
       subst c14
       have H1 : (some (t190 == false)) = some r := by rw [if_neg (show ¬ (false = true) by decide)] at H; exact H
       clear H
       have H := H1
       clear H1
       obtain rfl := Option.some.inj H
       go_wp2_with (first | ((with_reducible refine gate_callee (f := 14) rfl ?_); refine goesL_ (some 19) rfl rfl Try.func14 (by kernel_rfl) rfl #[.string a0] rfl (by (try simp only [List.map_toArray, List.map_cons, List.map_nil]); first | done | rfl | (simp only [List.length_drop, List.length_take]; rfl)) ?_; (with_reducible refine (lex_Kept.calls a0 t188 _ A10.out ?gv).mono ?_); (case gv => first | exact LexW.GV.later HGV.out (pxb HB) | (repeat (first | exact HGV.out | apply LexW.GV.drewN))); rintro e w' ⟨rfl, ⟨nd, rfl⟩⟩; refine ⟨_, rfl, ?_⟩) | ((with_reducible refine gate_callee (f := 15) rfl ?_); refine goesL_ (some 21) rfl rfl Try.func15 (by kernel_rfl) rfl #[.string a0] rfl (by (try simp only [List.map_toArray, List.map_cons, List.map_nil]); first | done | rfl | (simp only [List.length_drop, List.length_take]; rfl)) ?_; (with_reducible refine (caulkerref06_Kept.calls kj5 a0 t189 _ A11.out).mono ?_); rintro e w20 ⟨rfl, hb⟩; refine ⟨_, rfl, ?_⟩; have n0_ := pxs HB hb; clear HB; have HB := n0_; clear n0_; (try clear hb); (try clear hb2); (try clear hk); (try clear hi)) | ((with_reducible refine gate_callee (f := 16) rfl ?_); refine goesL_ (some 24) rfl rfl Try.func16 (by kernel_rfl) rfl #[.string a0] rfl (by (try simp only [List.map_toArray, List.map_cons, List.map_nil]); first | done | rfl | (simp only [List.length_drop, List.length_take]; rfl)) ?_; (with_reducible refine (lex_Name.calls kj5 a0 t190 _ A13.out ?gv).mono ?_); (case gv => first | exact LexW.GV.later HGV.out (pxb HB) | (repeat (first | exact HGV.out | apply LexW.GV.drewN))); rintro e w' ⟨rfl, ⟨nd, rfl⟩⟩; refine ⟨_, rfl, ?_⟩))
       go_ret
       exact ⟨by first | rfl | (simp [errW_none, errW_some] <;> rfl) | (simp [*, errW_none, errW_some] <;> rfl) | (simp [*, pxbeq, pxbne, errW_none, errW_some]; done), pxb HB⟩
 ·replace c3 := Bool.eq_false_iff.mpr c3
  subst c3
  have H1 : (none) = some r := by rw [if_neg (show ¬ (false = true) by decide)] at H; exact H
  clear H
  have H := H1
  clear H1
  exact absurd H (by simp)

/-- THE ONE PURE STATEMENT of caulkerlaw06_LexNames. -/
def caulkerlaw06_LexNames.Pure : Prop := ∀ (a0 : ByteArray), a0.size ≤ 140737488351232 → ∃ k, caulkerlaw06_LexNames.f k a0 = some true

end Go.Proofs.Ytlcblkjgkaiadaa.X
