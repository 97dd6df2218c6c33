/- What the program's functions answer, as Lean functions, and that each call does just that; no condition. Written by a program (px.py) out of the translation. -/
import Derived.Test.YtlcblkjgkaiadaaX0
import Derived.Test.YtlcblkjgkaiadaaX11
import Derived.Test.YtlcblkjgkaiadaaX12
import Derived.Test.YtlcblkjgkaiadaaX8
import Derived.Test.YtlcblkjgkaiadaaLexW
import Derived.Test.YtlcblkjgkaiadaaShort2
namespace Go.Proofs.Ytlcblkjgkaiadaa.X
open Go.RowKit Go.Proofs.YtlcblkjgkaiadaaW.PrintWords Go.Proofs.YtlcblkjgkaiadaaW.PrintLast Go.Proofs.YtlcblkjgkaiadaaW.PrintMore
attribute [local go_sem] max2_int min2_int max_two min_two max_three min_three max_four min_four   -- for this text's walks alone
set_option linter.unusedVariables false
set_option linter.unusedSimpArgs false

/-! ### caulkerlaw06_LexQuotes: function 5 -/
def caulkerlaw06_LexQuotes.l0 : Nat → ByteArray → Bool → Int → Int → Option (Bool)
 | 0, _, _, _, _ => none
 | k + 1, x0, x3, x15, x16 => if x16 < x15 then (if x3 = true then (if 0 ≤ x16 then (if x16 < (x0.size : Int) then (if (bt x0 x16) ≥ 32 then (if (bt x0 x16) ≤ 126 then (caulkerlaw06_LexQuotes.l0 k x0 true x15 (wrap64 (x16 + 1))) else (if (bt x0 x16) = 10 then (caulkerlaw06_LexQuotes.l0 k x0 true x15 (wrap64 (x16 + 1))) else (caulkerlaw06_LexQuotes.l0 k x0 ((bt x0 x16) == 9) x15 (wrap64 (x16 + 1))))) else (if (bt x0 x16) = 10 then (caulkerlaw06_LexQuotes.l0 k x0 true x15 (wrap64 (x16 + 1))) else (caulkerlaw06_LexQuotes.l0 k x0 ((bt x0 x16) == 9) x15 (wrap64 (x16 + 1))))) else (none)) else (none)) else (caulkerlaw06_LexQuotes.l0 k x0 false x15 (wrap64 (x16 + 1)))) else ((lex_Quote.f x0).bind fun bt176 => (if x3 = true then ((lex_Unquote.f bt176.1).bind fun bt178 => (if bt176.2 = 0 then (if bt178.2 = 0 then (some (bt178.1.toList == x0.toList)) else (none)) else (none))) else (if bt176.2 = 60 then (some (bt176.1.toList == ([] : List UInt8))) else (none))))
def caulkerlaw06_LexQuotes.f (k : Nat) (a0 : ByteArray) : Option (Bool) := (caulkerlaw06_cuts.f k).bind fun t175 => (if t175 = true then (if (a0.size : Int) > 500 then (some true) else (caulkerlaw06_LexQuotes.l0 k a0 true (a0.size : Int) 0)) else (none))
theorem caulkerlaw06_LexQuotes.mono_l : ∀ k, (∀ y0 y1 y2 y3, LeO (caulkerlaw06_LexQuotes.l0 k y0 y1 y2 y3) (caulkerlaw06_LexQuotes.l0 (k + 1) y0 y1 y2 y3))
 | 0 => fun _ _ _ _ r h => by simp [caulkerlaw06_LexQuotes.l0] at h
 | k + 1 => by
  have ih0 := caulkerlaw06_LexQuotes.mono_l k
  ·intro y0 y1 y2 y3
   unfold caulkerlaw06_LexQuotes.l0
   repeat' first
   | (with_reducible exact ih0 _ _ _ _)
   | (with_reducible exact caulkerlaw06_cuts.mono _)
   | (with_reducible exact LeO.refl _)
   | (with_reducible exact LeO.none _)
   | (with_reducible refine LeO.ite ?_ ?_)
   | (with_reducible refine LeO.bind ?_ (fun _ => ?_))
   | exact ih0 _ _ _ _
   | exact caulkerlaw06_cuts.mono _
   | exact LeO.none _
   | refine LeO.ite ?_ ?_
   | refine LeO.bind ?_ (fun _ => ?_)
theorem caulkerlaw06_LexQuotes.mono : ∀ a0 k, LeO (caulkerlaw06_LexQuotes.f k a0) (caulkerlaw06_LexQuotes.f (k + 1) a0) := by
 intro a0 k
 have ih0 := caulkerlaw06_LexQuotes.mono_l k
 unfold caulkerlaw06_LexQuotes.f
 repeat' first
   | (with_reducible exact ih0 _ _ _ _)
   | (with_reducible exact caulkerlaw06_cuts.mono _)
   | (with_reducible exact LeO.refl _)
   | (with_reducible exact LeO.none _)
   | (with_reducible refine LeO.ite ?_ ?_)
   | (with_reducible refine LeO.bind ?_ (fun _ => ?_))
   | exact ih0 _ _ _ _
   | exact caulkerlaw06_cuts.mono _
   | exact LeO.none _
   | refine LeO.ite ?_ ?_
   | refine LeO.bind ?_ (fun _ => ?_)
set_option maxHeartbeats 8000000 in
set_option maxRecDepth 100000 in
theorem caulkerlaw06_LexQuotes.calls (k : Nat) (a0 : ByteArray) (r : Bool) (w : World) (h : caulkerlaw06_LexQuotes.f k a0 = some r) (hgv : LexW.GV w) :
  Calls Try.prog 5 #[.string a0] w fun e w' => e = .returned (.bool r) ∧ Below w.heap.size w w' := by
 have HGV := Aside0.mk hgv
 clear hgv
 have HB := Aside0.mk (Below.refl w.heap.size w)
 have H : ((caulkerlaw06_cuts.f k).bind fun t175 => (if t175 = true then (if (a0.size : Int) > 500 then (some true) else (caulkerlaw06_LexQuotes.l0 k a0 true (a0.size : Int) 0)) else (none))) = some r := h
 clear h
 replace H := Option.bind_eq_some_iff.mp H
 obtain ⟨t175, A20, H⟩ := H
 replace H : (if t175 = true then (if (a0.size : Int) > 500 then (some true) else (caulkerlaw06_LexQuotes.l0 k a0 true (a0.size : Int) 0)) else (none)) = some r := H
 have A2 := Aside0.mk A20
 clear A20
 by_cases c3 : t175 = true
 ·subst c3
  have H1 : (if (a0.size : Int) > 500 then (some true) else (caulkerlaw06_LexQuotes.l0 k a0 true (a0.size : Int) 0)) = some r := by rw [if_pos rfl] at H; exact H
  clear H
  have H := H1
  clear H1
  by_cases c4 : (a0.size : Int) > 500
  ·rw [if_pos c4] at H
   have c4b0 : decide (500 < (a0.size : Int)) = true := decide_eq_true c4
   have c4b1 : decide (500 < a0.size) = true := decide_eq_true (by omega)
   clear c4
   obtain rfl := Option.some.inj H
   go_enter Try.func5, Try.ntmps5
   go_wp2_with (first | ((with_reducible refine gate_callee (f := 8) rfl ?_); refine goesL_ (some 9) rfl rfl Try.func8 (by kernel_rfl) rfl #[] rfl (by (try simp only [List.map_toArray, List.map_cons, List.map_nil]); first | done | rfl | (simp only [List.length_drop, List.length_take]; rfl)) ?_; (with_reducible refine (caulkerlaw06_cuts.calls k  true _ A2.out ?gv).mono ?_); (case gv => first | exact LexW.GV.later HGV.out (pxb HB) | (repeat (first | exact HGV.out | apply LexW.GV.drewN))); rintro e w5 ⟨rfl, hb⟩; refine ⟨_, rfl, ?_⟩; have n0_ := pxs HB hb; clear HB; have HB := n0_; clear n0_; (try clear hb); (try clear hb2); (try clear hk); (try clear hi)))
   go_ret
   exact ⟨by first | rfl | (simp [errW_none, errW_some] <;> rfl) | (simp [*, errW_none, errW_some] <;> rfl) | (simp [*, pxbeq, pxbne, errW_none, errW_some]; done), pxb HB⟩
  ·rw [if_neg c4] at H
   have c4b0 : decide (500 < (a0.size : Int)) = false := decide_eq_false c4
   have c4b1 : decide (500 < a0.size) = false := decide_eq_false (by omega)
   clear c4
   have H' := Aside0.mk H
   clear H
   go_enter Try.func5, Try.ntmps5
   go_wp2_with (first | ((with_reducible refine gate_callee (f := 8) rfl ?_); refine goesL_ (some 9) rfl rfl Try.func8 (by kernel_rfl) rfl #[] rfl (by (try simp only [List.map_toArray, List.map_cons, List.map_nil]); first | done | rfl | (simp only [List.length_drop, List.length_take]; rfl)) ?_; (with_reducible refine (caulkerlaw06_cuts.calls k  true _ A2.out ?gv).mono ?_); (case gv => first | exact LexW.GV.later HGV.out (pxb HB) | (repeat (first | exact HGV.out | apply LexW.GV.drewN))); rintro e w6 ⟨rfl, hb⟩; refine ⟨_, rfl, ?_⟩; have n0_ := pxs HB hb; clear HB; have HB := n0_; clear n0_; (try clear hb); (try clear hb2); (try clear hk); (try clear hi)))
   go_loopg [3, 16] k (fun kq v3 v16 w' => ∃ (x3_1 : Bool) (x16_1 : Int), v3 = .bool x3_1 ∧ v16 = .int .i64 x16_1 ∧ Aside0 (caulkerlaw06_LexQuotes.l0 kq a0 x3_1 (a0.size : Int) x16_1 = some r) ∧ Aside0 (kq ≤ k) ∧ Aside0 (Below w.heap.size w w'))
   case atStart => exact ⟨(true), (0), (by first | rfl | (simp; done) | (simp [*]; done)), (by first | rfl | (simp; done) | (simp [*]; done)), H', ⟨Nat.le_refl _⟩, ⟨pxb HB⟩⟩
   case round =>
    clear H'
    try clear p2
    try clear c3
    try clear c4
    try clear c4b0
    try clear c4b1
    try clear c5
    obtain ⟨x3_1, x16_1, rfl, rfl, HA, HK1, HB⟩ := hrel
    cases gk with
    | zero => exact absurd HA.out (by simp [caulkerlaw06_LexQuotes.l0])
    | succ k1 =>
     have H := HA.out
     clear HA
     simp only [caulkerlaw06_LexQuotes.l0] at H
     by_cases c7 : x16_1 < (a0.size : Int)
     ·rw [if_pos c7] at H
      have c7b0 : decide (x16_1 < (a0.size : Int)) = true := decide_eq_true c7
      clear c7
      by_cases c8 : x3_1 = true
      ·subst c8
       have H1 : (if 0 ≤ x16_1 then (if x16_1 < (a0.size : Int) then (if (bt a0 x16_1) ≥ 32 then (if (bt a0 x16_1) ≤ 126 then (caulkerlaw06_LexQuotes.l0 k1 a0 true (a0.size : Int) (wrap64 (x16_1 + 1))) else (if (bt a0 x16_1) = 10 then (caulkerlaw06_LexQuotes.l0 k1 a0 true (a0.size : Int) (wrap64 (x16_1 + 1))) else (caulkerlaw06_LexQuotes.l0 k1 a0 ((bt a0 x16_1) == 9) (a0.size : Int) (wrap64 (x16_1 + 1))))) else (if (bt a0 x16_1) = 10 then (caulkerlaw06_LexQuotes.l0 k1 a0 true (a0.size : Int) (wrap64 (x16_1 + 1))) else (caulkerlaw06_LexQuotes.l0 k1 a0 ((bt a0 x16_1) == 9) (a0.size : Int) (wrap64 (x16_1 + 1))))) else (none)) else (none)) = some r := by rw [if_pos rfl] at H; exact H
       clear H
       have H := H1
       clear H1
       by_cases c9 : 0 ≤ x16_1
       ·rw [if_pos c9] at H
        have c9b0 : decide (0 ≤ x16_1) = true := decide_eq_true c9
        clear c9
        by_cases c10 : x16_1 < (a0.size : Int)
        ·rw [if_pos c10] at H
         have c10b0 : decide (x16_1 < (a0.size : Int)) = true := decide_eq_true c10
         clear c10
         by_cases c12 : (bt a0 x16_1) ≥ 32
         ·rw [if_pos c12] at H
          have c12b0 : decide (32 ≤ (bt a0 x16_1)) = true := decide_eq_true c12
          clear c12
          by_cases c14 : (bt a0 x16_1) ≤ 126
          ·rw [if_pos c14] at H
           have c14b0 : decide ((bt a0 x16_1) ≤ 126) = true := decide_eq_true c14
           clear c14
           have H' := Aside0.mk H
           clear H
           have p11 : 0 ≤ (x16_1 : Int) := of_decide_eq_true (by first | (with_reducible assumption) | assumption)
           have q11 : x16_1 < (a0.size : Int) := of_decide_eq_true (by first | (with_reducible assumption) | assumption)
           have hx11 := bt_at a0 x16_1
           replace p11 := eq_true p11
           replace q11 := eq_true q11
           have p13 : 0 ≤ (x16_1 : Int) := of_decide_eq_true (by first | (with_reducible assumption) | assumption)
           have q13 : x16_1 < (a0.size : Int) := of_decide_eq_true (by first | (with_reducible assumption) | assumption)
           have hx13 := bt_at a0 x16_1
           replace p13 := eq_true p13
           replace q13 := eq_true q13
           go_wp2
           go_roundg k1
           case measure => have := HK1.out; omega
           case rel => exact ⟨(true), (wrap64 (x16_1 + 1)), (by first | rfl | (simp; done) | (simp [*]; done)), (by first | rfl | (simp; done) | (simp [*]; done)), H', ⟨by have := HK1.out; omega⟩, ⟨pxb HB⟩⟩
          ·rw [if_neg c14] at H
           have c14b0 : decide ((bt a0 x16_1) ≤ 126) = false := decide_eq_false c14
           clear c14
           by_cases c16 : (bt a0 x16_1) = 10
           ·rw [if_pos c16] at H
            have c16b0 : ((bt a0 x16_1) == 10) = true := beq_iff_eq.mpr c16
            have c16b1 : ((bt a0 x16_1) != 10) = false := bne_eq_false_iff_eq.mpr c16
            clear c16
            have H' := Aside0.mk H
            clear H
            have p11 : 0 ≤ (x16_1 : Int) := of_decide_eq_true (by first | (with_reducible assumption) | assumption)
            have q11 : x16_1 < (a0.size : Int) := of_decide_eq_true (by first | (with_reducible assumption) | assumption)
            have hx11 := bt_at a0 x16_1
            replace p11 := eq_true p11
            replace q11 := eq_true q11
            have p13 : 0 ≤ (x16_1 : Int) := of_decide_eq_true (by first | (with_reducible assumption) | assumption)
            have q13 : x16_1 < (a0.size : Int) := of_decide_eq_true (by first | (with_reducible assumption) | assumption)
            have hx13 := bt_at a0 x16_1
            replace p13 := eq_true p13
            replace q13 := eq_true q13
            have p15 : 0 ≤ (x16_1 : Int) := of_decide_eq_true (by first | (with_reducible assumption) | assumption)
            have q15 : x16_1 < (a0.size : Int) := of_decide_eq_true (by first | (with_reducible assumption) | assumption)
            have hx15 := bt_at a0 x16_1
            replace p15 := eq_true p15
            replace q15 := eq_true q15
            go_wp2
            go_roundg k1
            case measure => have := HK1.out; omega
            case rel => exact ⟨(true), (wrap64 (x16_1 + 1)), (by first | rfl | (simp; done) | (simp [*]; done)), (by first | rfl | (simp; done) | (simp [*]; done)), H', ⟨by have := HK1.out; omega⟩, ⟨pxb HB⟩⟩
           ·rw [if_neg c16] at H
            have c16b0 : ((bt a0 x16_1) == 10) = false := beq_eq_false_iff_ne.mpr c16
            have c16b1 : ((bt a0 x16_1) != 10) = true := bne_iff_ne.mpr c16
            have H' := Aside0.mk H
            clear H
            have p11 : 0 ≤ (x16_1 : Int) := of_decide_eq_true (by first | (with_reducible assumption) | assumption)
            have q11 : x16_1 < (a0.size : Int) := of_decide_eq_true (by first | (with_reducible assumption) | assumption)
            have hx11 := bt_at a0 x16_1
            replace p11 := eq_true p11
            replace q11 := eq_true q11
            have p13 : 0 ≤ (x16_1 : Int) := of_decide_eq_true (by first | (with_reducible assumption) | assumption)
            have q13 : x16_1 < (a0.size : Int) := of_decide_eq_true (by first | (with_reducible assumption) | assumption)
            have hx13 := bt_at a0 x16_1
            replace p13 := eq_true p13
            replace q13 := eq_true q13
            have p15 : 0 ≤ (x16_1 : Int) := of_decide_eq_true (by first | (with_reducible assumption) | assumption)
            have q15 : x16_1 < (a0.size : Int) := of_decide_eq_true (by first | (with_reducible assumption) | assumption)
            have hx15 := bt_at a0 x16_1
            replace p15 := eq_true p15
            replace q15 := eq_true q15
            have p17 : 0 ≤ (x16_1 : Int) := of_decide_eq_true (by first | (with_reducible assumption) | assumption)
            have q17 : x16_1 < (a0.size : Int) := of_decide_eq_true (by first | (with_reducible assumption) | assumption)
            have hx17 := bt_at a0 x16_1
            replace p17 := eq_true p17
            replace q17 := eq_true q17
            go_wp2
            go_roundg k1
            case measure => have := HK1.out; omega
            case rel => exact ⟨(((bt a0 x16_1) == 9)), (wrap64 (x16_1 + 1)), (by first | rfl | (simp; done) | (simp [*]; done)), (by first | rfl | (simp; done) | (simp [*]; done)), H', ⟨by have := HK1.out; omega⟩, ⟨pxb HB⟩⟩
         ·rw [if_neg c12] at H
          have c12b0 : decide (32 ≤ (bt a0 x16_1)) = false := decide_eq_false c12
          clear c12
          by_cases c19 : (bt a0 x16_1) = 10
          ·rw [if_pos c19] at H
           have c19b0 : ((bt a0 x16_1) == 10) = true := beq_iff_eq.mpr c19
           have c19b1 : ((bt a0 x16_1) != 10) = false := bne_eq_false_iff_eq.mpr c19
           clear c19
           have H' := Aside0.mk H
           clear H
           have p11 : 0 ≤ (x16_1 : Int) := of_decide_eq_true (by first | (with_reducible assumption) | assumption)
           have q11 : x16_1 < (a0.size : Int) := of_decide_eq_true (by first | (with_reducible assumption) | assumption)
           have hx11 := bt_at a0 x16_1
           replace p11 := eq_true p11
           replace q11 := eq_true q11
           have p18 : 0 ≤ (x16_1 : Int) := of_decide_eq_true (by first | (with_reducible assumption) | assumption)
           have q18 : x16_1 < (a0.size : Int) := of_decide_eq_true (by first | (with_reducible assumption) | assumption)
           have hx18 := bt_at a0 x16_1
           replace p18 := eq_true p18
           replace q18 := eq_true q18
           go_wp2
           go_roundg k1
           case measure => have := HK1.out; omega
           case rel => exact ⟨(true), (wrap64 (x16_1 + 1)), (by first | rfl | (simp; done) | (simp [*]; done)), (by first | rfl | (simp; done) | (simp [*]; done)), H', ⟨by have := HK1.out; omega⟩, ⟨pxb HB⟩⟩
          ·rw [if_neg c19] at H
           have c19b0 : ((bt a0 x16_1) == 10) = false := beq_eq_false_iff_ne.mpr c19
           have c19b1 : ((bt a0 x16_1) != 10) = true := bne_iff_ne.mpr c19
           have H' := Aside0.mk H
           clear H
           have p11 : 0 ≤ (x16_1 : Int) := of_decide_eq_true (by first | (with_reducible assumption) | assumption)
           have q11 : x16_1 < (a0.size : Int) := of_decide_eq_true (by first | (with_reducible assumption) | assumption)
           have hx11 := bt_at a0 x16_1
           replace p11 := eq_true p11
           replace q11 := eq_true q11
           have p18 : 0 ≤ (x16_1 : Int) := of_decide_eq_true (by first | (with_reducible assumption) | assumption)
           have q18 : x16_1 < (a0.size : Int) := of_decide_eq_true (by first | (with_reducible assumption) | assumption)
           have hx18 := bt_at a0 x16_1
           replace p18 := eq_true p18
           replace q18 := eq_true q18
           have p20 : 0 ≤ (x16_1 : Int) := of_decide_eq_true (by first | (with_reducible assumption) | assumption)
           have q20 : x16_1 < (a0.size : Int) := of_decide_eq_true (by first | (with_reducible assumption) | assumption)
           have hx20 := bt_at a0 x16_1
           replace p20 := eq_true p20
           replace q20 := eq_true q20
           go_wp2
           go_roundg k1
           case measure => have := HK1.out; omega
           case rel => exact ⟨(((bt a0 x16_1) == 9)), (wrap64 (x16_1 + 1)), (by first | rfl | (simp; done) | (simp [*]; done)), (by first | rfl | (simp; done) | (simp [*]; done)), H', ⟨by have := HK1.out; omega⟩, ⟨pxb HB⟩⟩
        ·rw [if_neg c10] at H
         exact absurd H (by simp)
       ·rw [if_neg c9] at H
        exact absurd H (by simp)
      ·replace c8 := Bool.eq_false_iff.mpr c8
       subst c8
       have H1 : (caulkerlaw06_LexQuotes.l0 k1 a0 false (a0.size : Int) (wrap64 (x16_1 + 1))) = some r := by rw [if_neg (show ¬ (false = true) by decide)] at H; exact H
       clear H
       have H := H1
       clear H1
       have H' := Aside0.mk H
       clear H
       go_wp2
       go_roundg k1
       case measure => have := HK1.out; omega
       case rel => exact ⟨(false), (wrap64 (x16_1 + 1)), (by first | rfl | (simp; done) | (simp [*]; done)), (by first | rfl | (simp; done) | (simp [*]; done)), H', ⟨by have := HK1.out; omega⟩, ⟨pxb HB⟩⟩
     ·rw [if_neg c7] at H
      have c7b0 : decide (x16_1 < (a0.size : Int)) = false := decide_eq_false c7
      clear c7
      replace H := Option.bind_eq_some_iff.mp H
      obtain ⟨⟨t176, t177⟩, A210, H⟩ := H
      replace H : (if x3_1 = true then ((lex_Unquote.f t176).bind fun bt178 => (if t177 = 0 then (if bt178.2 = 0 then (some (bt178.1.toList == a0.toList)) else (none)) else (none))) else (if t177 = 60 then (some (t176.toList == ([] : List UInt8))) else (none))) = some r := H
      have A21 := Aside0.mk A210
      clear A210
      by_cases c22 : x3_1 = true
      ·subst c22
       have H1 : ((lex_Unquote.f t176).bind fun bt178 => (if t177 = 0 then (if bt178.2 = 0 then (some (bt178.1.toList == a0.toList)) else (none)) else (none))) = some r := by rw [if_pos rfl] at H; exact H
       clear H
       have H := H1
       clear H1
       replace H := Option.bind_eq_some_iff.mp H
       obtain ⟨⟨t178, t179⟩, A230, H⟩ := H
       replace H : (if t177 = 0 then (if t179 = 0 then (some (t178.toList == a0.toList)) else (none)) else (none)) = some r := H
       have A23 := Aside0.mk A230
       clear A230
       by_cases c24 : t177 = 0
       ·rw [if_pos c24] at H
        have c24b0 : (t177 == 0) = true := beq_iff_eq.mpr c24
        have c24b1 : (t177 != 0) = false := bne_eq_false_iff_eq.mpr c24
        clear c24
        by_cases c25 : t179 = 0
        ·rw [if_pos c25] at H
         have c25b0 : (t179 == 0) = true := beq_iff_eq.mpr c25
         have c25b1 : (t179 != 0) = false := bne_eq_false_iff_eq.mpr c25
         clear c25
         obtain rfl := Option.some.inj H
         go_wp2_with (first | ((with_reducible refine gate_callee (f := 11) rfl ?_); refine goesL_ (some 47) rfl rfl Try.func11 (by kernel_rfl) rfl #[.string a0] rfl (by (try simp only [List.map_toArray, List.map_cons, List.map_nil]); first | done | rfl | (simp only [List.length_drop, List.length_take]; rfl)) ?_; (with_reducible refine (lex_Quote.calls a0 t176 t177 _ A21.out).mono ?_); rintro e w26 ⟨rfl, hb⟩; refine ⟨_, rfl, ?_⟩; have n0_ := pxs HB hb; clear HB; have HB := n0_; clear n0_; (try clear hb); (try clear hb2); (try clear hk); (try clear hi)) | ((with_reducible refine gate_callee (f := 12) rfl ?_); refine goesL_ (some 60) rfl rfl Try.func12 (by kernel_rfl) rfl #[.string t176] rfl (by (try simp only [List.map_toArray, List.map_cons, List.map_nil]); first | done | rfl | (simp only [List.length_drop, List.length_take]; rfl)) ?_; (with_reducible refine (lex_Unquote.calls t176 t178 t179 _ A23.out).mono ?_); rintro e w27 ⟨rfl, hb⟩; refine ⟨_, rfl, ?_⟩; have n0_ := pxs HB hb; clear HB; have HB := n0_; clear n0_; (try clear hb); (try clear hb2); (try clear hk); (try clear hi)))
         go_ret
         exact ⟨by first | rfl | (simp [errW_none, errW_some] <;> rfl) | (simp [*, errW_none, errW_some] <;> rfl) | (simp [*, pxbeq, pxbne, errW_none, errW_some]; done), pxb HB⟩
        ·rw [if_neg c25] at H
         exact absurd H (by simp)
       ·rw [if_neg c24] at H
        exact absurd H (by simp)
      ·replace c22 := Bool.eq_false_iff.mpr c22
       subst c22
       have H1 : (if t177 = 60 then (some (t176.toList == ([] : List UInt8))) else (none)) = some r := by rw [if_neg (show ¬ (false = true) by decide)] at H; exact H
       clear H
       have H := H1
       clear H1
       by_cases c28 : t177 = 60
       ·rw [if_pos c28] at H
        have c28b0 : (t177 == 60) = true := beq_iff_eq.mpr c28
        have c28b1 : (t177 != 60) = false := bne_eq_false_iff_eq.mpr c28
        clear c28
        obtain rfl := Option.some.inj H
        go_wp2_with (first | ((with_reducible refine gate_callee (f := 11) rfl ?_); refine goesL_ (some 47) rfl rfl Try.func11 (by kernel_rfl) rfl #[.string a0] rfl (by (try simp only [List.map_toArray, List.map_cons, List.map_nil]); first | done | rfl | (simp only [List.length_drop, List.length_take]; rfl)) ?_; (with_reducible refine (lex_Quote.calls a0 t176 t177 _ A21.out).mono ?_); rintro e w29 ⟨rfl, hb⟩; refine ⟨_, rfl, ?_⟩; have n0_ := pxs HB hb; clear HB; have HB := n0_; clear n0_; (try clear hb); (try clear hb2); (try clear hk); (try clear hi)))
        go_ret
        exact ⟨by first | rfl | (simp [errW_none, errW_some] <;> rfl) | (simp [*, errW_none, errW_some] <;> rfl) | (simp [*, pxbeq, pxbne, errW_none, errW_some]; done), pxb HB⟩
       ·rw [if_neg c28] at H
        exact absurd H (by simp)
 ·replace c3 := Bool.eq_false_iff.mpr c3
  subst c3
  have H1 : (none) = some r := by rw [if_neg (show ¬ (false = true) by decide)] at H; exact H
  clear H
  have H := H1
  clear H1
  exact absurd H (by simp)

/-- THE ONE PURE STATEMENT of caulkerlaw06_LexQuotes. -/
def caulkerlaw06_LexQuotes.Pure : Prop := ∀ (a0 : ByteArray), a0.size ≤ 140737488351232 → ∃ k, caulkerlaw06_LexQuotes.f k a0 = some true

end Go.Proofs.Ytlcblkjgkaiadaa.X
