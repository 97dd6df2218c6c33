/- What the program's functions answer, as Lean functions, and that each call does just that; no condition. Written by a program (px.py) out of the translation. -/
import Derived.Test.YtoljmjhmieaggaaX0
import Derived.Test.YtoljmjhmieaggaaX12
import Derived.Test.YtoljmjhmieaggaaX16
import Derived.Test.YtoljmjhmieaggaaX19
import Derived.Test.YtoljmjhmieaggaaX11
import Derived.Test.YtoljmjhmieaggaaX20
import Derived.Test.YtoljmjhmieaggaaShort2
namespace Go.Proofs.Ytoljmjhmieaggaa.X
open Go.RowKit Go.Proofs.YtoljmjhmieaggaaW.PrintWords Go.Proofs.YtoljmjhmieaggaaW.PrintLast Go.Proofs.YtoljmjhmieaggaaW.PrintMore
attribute [local go_sem] max2_int min2_int max_two min_two max_three min_three max_four min_four   -- for this text's walks alone
set_option linter.unusedVariables false
set_option linter.unusedSimpArgs false

/-! ### caulkerlaw04_DiffTidy: function 9 -/
mutual
def caulkerlaw04_DiffTidy.j0 : Nat → ByteArray → ByteArray → Bool → Option (Bool)
 | 0, _, _, _ => none
 | k + 1, x0, x1, x21 => if x21 = true then (some true) else ((diff_Bytes.f k x0 x1).bind fun bt410 => (if bt410.2.2 = 0 then ((edit_Check.f k (x0.size : Int) bt410.1).bind fun t415 => (caulkerlaw04_DiffTidy.j1 k x0 bt410.1 (t415 != 0))) else (caulkerlaw04_DiffTidy.j1 k x0 bt410.1 true)))
def caulkerlaw04_DiffTidy.j1 : Nat → ByteArray → List (S41) → Bool → Option (Bool)
 | 0, _, _, _ => none
 | k + 1, x0, x5, x37 => if x37 = true then (none) else (caulkerlaw04_DiffTidy.l0 k x0 x5 x5 (x5.length : Int) 0)
def caulkerlaw04_DiffTidy.l0 : Nat → ByteArray → List (S41) → List (S41) → Int → Int → Option (Bool)
 | 0, _, _, _, _, _ => none
 | k + 1, x0, x5, x38, x39, x40 => if x40 < x39 then (if 0 ≤ x40 then (if x40 < (x38.length : Int) then (if ((rd_T41 x38 x40).f0.f0) = ((rd_T41 x38 x40).f0.f1) then (if ((rd_T41 x38 x40).f1).toList = ([] : List UInt8) then (none) else (if x40 > 0 then (if 0 ≤ (wrap64 (x40 - 1)) then (if (wrap64 (x40 - 1)) < (x5.length : Int) then (if ((rd_T41 x5 (wrap64 (x40 - 1))).f0.f1) ≥ ((rd_T41 x38 x40).f0.f0) then (none) else (caulkerlaw04_DiffTidy.l0 k x0 x5 x38 x39 (wrap64 (x40 + 1)))) else (none)) else (none)) else (caulkerlaw04_DiffTidy.l0 k x0 x5 x38 x39 (wrap64 (x40 + 1))))) else (if x40 > 0 then (if 0 ≤ (wrap64 (x40 - 1)) then (if (wrap64 (x40 - 1)) < (x5.length : Int) then (if ((rd_T41 x5 (wrap64 (x40 - 1))).f0.f1) ≥ ((rd_T41 x38 x40).f0.f0) then (none) else (caulkerlaw04_DiffTidy.l0 k x0 x5 x38 x39 (wrap64 (x40 + 1)))) else (none)) else (none)) else (caulkerlaw04_DiffTidy.l0 k x0 x5 x38 x39 (wrap64 (x40 + 1))))) else (none)) else (none)) else ((edit_Tidy.f k x0 x5).bind fun bt420 => (if bt420.2 = 0 then ((edit_Cost.f k bt420.1).bind fun t424 => ((edit_Cost.f k x5).bind fun t425 => (some (t424 == t425)))) else (none)))
end
def caulkerlaw04_DiffTidy.f (k : Nat) (a0 : ByteArray) (a1 : ByteArray) : Option (Bool) := (caulkerlaw04_finds.f k).bind fun t409 => (if t409 = true then (if (a0.size : Int) > 300 then (caulkerlaw04_DiffTidy.j0 k a0 a1 true) else (caulkerlaw04_DiffTidy.j0 k a0 a1 (decide ((a1.size : Int) > 200)))) else (none))
theorem caulkerlaw04_DiffTidy.mono_l : ∀ k, (∀ y0 y1 y2, LeO (caulkerlaw04_DiffTidy.j0 k y0 y1 y2) (caulkerlaw04_DiffTidy.j0 (k + 1) y0 y1 y2)) ∧ (∀ y0 y1 y2, LeO (caulkerlaw04_DiffTidy.j1 k y0 y1 y2) (caulkerlaw04_DiffTidy.j1 (k + 1) y0 y1 y2)) ∧ (∀ y0 y1 y2 y3 y4, LeO (caulkerlaw04_DiffTidy.l0 k y0 y1 y2 y3 y4) (caulkerlaw04_DiffTidy.l0 (k + 1) y0 y1 y2 y3 y4))
 | 0 => ⟨fun _ _ _ r h => by simp [caulkerlaw04_DiffTidy.j0] at h, fun _ _ _ r h => by simp [caulkerlaw04_DiffTidy.j1] at h, fun _ _ _ _ _ r h => by simp [caulkerlaw04_DiffTidy.l0] at h⟩
 | k + 1 => by
  obtain ⟨ih0, ih1, ih2⟩ := caulkerlaw04_DiffTidy.mono_l k
  refine ⟨?_, ?_, ?_⟩
  ·intro y0 y1 y2
   unfold caulkerlaw04_DiffTidy.j0
   repeat' first
   | (with_reducible exact ih0 _ _ _)
   | (with_reducible exact ih1 _ _ _)
   | (with_reducible exact ih2 _ _ _ _ _)
   | (with_reducible exact caulkerlaw04_finds.mono _)
   | (with_reducible exact diff_Bytes.mono _ _ _)
   | (with_reducible exact edit_Check.mono _ _ _)
   | (with_reducible exact edit_Cost.mono _ _)
   | (with_reducible exact edit_Tidy.mono _ _ _)
   | (with_reducible exact LeO.refl _)
   | (with_reducible exact LeO.none _)
   | (with_reducible refine LeO.ite ?_ ?_)
   | (with_reducible refine LeO.bind ?_ (fun _ => ?_))
   | exact ih0 _ _ _
   | exact ih1 _ _ _
   | exact ih2 _ _ _ _ _
   | exact caulkerlaw04_finds.mono _
   | exact diff_Bytes.mono _ _ _
   | exact edit_Check.mono _ _ _
   | exact edit_Cost.mono _ _
   | exact edit_Tidy.mono _ _ _
   | exact LeO.none _
   | refine LeO.ite ?_ ?_
   | refine LeO.bind ?_ (fun _ => ?_)
  ·intro y0 y1 y2
   unfold caulkerlaw04_DiffTidy.j1
   repeat' first
   | (with_reducible exact ih0 _ _ _)
   | (with_reducible exact ih1 _ _ _)
   | (with_reducible exact ih2 _ _ _ _ _)
   | (with_reducible exact caulkerlaw04_finds.mono _)
   | (with_reducible exact diff_Bytes.mono _ _ _)
   | (with_reducible exact edit_Check.mono _ _ _)
   | (with_reducible exact edit_Cost.mono _ _)
   | (with_reducible exact edit_Tidy.mono _ _ _)
   | (with_reducible exact LeO.refl _)
   | (with_reducible exact LeO.none _)
   | (with_reducible refine LeO.ite ?_ ?_)
   | (with_reducible refine LeO.bind ?_ (fun _ => ?_))
   | exact ih0 _ _ _
   | exact ih1 _ _ _
   | exact ih2 _ _ _ _ _
   | exact caulkerlaw04_finds.mono _
   | exact diff_Bytes.mono _ _ _
   | exact edit_Check.mono _ _ _
   | exact edit_Cost.mono _ _
   | exact edit_Tidy.mono _ _ _
   | exact LeO.none _
   | refine LeO.ite ?_ ?_
   | refine LeO.bind ?_ (fun _ => ?_)
  ·intro y0 y1 y2 y3 y4
   unfold caulkerlaw04_DiffTidy.l0
   repeat' first
   | (with_reducible exact ih0 _ _ _)
   | (with_reducible exact ih1 _ _ _)
   | (with_reducible exact ih2 _ _ _ _ _)
   | (with_reducible exact caulkerlaw04_finds.mono _)
   | (with_reducible exact diff_Bytes.mono _ _ _)
   | (with_reducible exact edit_Check.mono _ _ _)
   | (with_reducible exact edit_Cost.mono _ _)
   | (with_reducible exact edit_Tidy.mono _ _ _)
   | (with_reducible exact LeO.refl _)
   | (with_reducible exact LeO.none _)
   | (with_reducible refine LeO.ite ?_ ?_)
   | (with_reducible refine LeO.bind ?_ (fun _ => ?_))
   | exact ih0 _ _ _
   | exact ih1 _ _ _
   | exact ih2 _ _ _ _ _
   | exact caulkerlaw04_finds.mono _
   | exact diff_Bytes.mono _ _ _
   | exact edit_Check.mono _ _ _
   | exact edit_Cost.mono _ _
   | exact edit_Tidy.mono _ _ _
   | exact LeO.none _
   | refine LeO.ite ?_ ?_
   | refine LeO.bind ?_ (fun _ => ?_)
theorem caulkerlaw04_DiffTidy.mono : ∀ a0 a1 k, LeO (caulkerlaw04_DiffTidy.f k a0 a1) (caulkerlaw04_DiffTidy.f (k + 1) a0 a1) := by
 intro a0 a1 k
 obtain ⟨ih0, ih1, ih2⟩ := caulkerlaw04_DiffTidy.mono_l k
 unfold caulkerlaw04_DiffTidy.f
 repeat' first
   | (with_reducible exact ih0 _ _ _)
   | (with_reducible exact ih1 _ _ _)
   | (with_reducible exact ih2 _ _ _ _ _)
   | (with_reducible exact caulkerlaw04_finds.mono _)
   | (with_reducible exact diff_Bytes.mono _ _ _)
   | (with_reducible exact edit_Check.mono _ _ _)
   | (with_reducible exact edit_Cost.mono _ _)
   | (with_reducible exact edit_Tidy.mono _ _ _)
   | (with_reducible exact LeO.refl _)
   | (with_reducible exact LeO.none _)
   | (with_reducible refine LeO.ite ?_ ?_)
   | (with_reducible refine LeO.bind ?_ (fun _ => ?_))
   | exact ih0 _ _ _
   | exact ih1 _ _ _
   | exact ih2 _ _ _ _ _
   | exact caulkerlaw04_finds.mono _
   | exact diff_Bytes.mono _ _ _
   | exact edit_Check.mono _ _ _
   | exact edit_Cost.mono _ _
   | exact edit_Tidy.mono _ _ _
   | exact LeO.none _
   | refine LeO.ite ?_ ?_
   | refine LeO.bind ?_ (fun _ => ?_)
set_option maxHeartbeats 8000000 in
set_option maxRecDepth 100000 in
theorem caulkerlaw04_DiffTidy.calls (k : Nat) (a0 : ByteArray) (a1 : ByteArray) (r : Bool) (w : World) (h : caulkerlaw04_DiffTidy.f k a0 a1 = some r) :
  Calls Try.prog 9 #[.string a0, .string a1] w fun e w' => e = .returned (.bool r) ∧ Below w.heap.size w w' := by
 have hu41 := Try.underlying41
 have HB := Aside0.mk (Below.refl w.heap.size w)
 have H : ((caulkerlaw04_finds.f k).bind fun t409 => (if t409 = true then (if (a0.size : Int) > 300 then (caulkerlaw04_DiffTidy.j0 k a0 a1 true) else (caulkerlaw04_DiffTidy.j0 k a0 a1 (decide ((a1.size : Int) > 200)))) else (none))) = some r := h
 clear h
 replace H := Option.bind_eq_some_iff.mp H
 obtain ⟨t409, A30, H⟩ := H
 replace H : (if t409 = true then (if (a0.size : Int) > 300 then (caulkerlaw04_DiffTidy.j0 k a0 a1 true) else (caulkerlaw04_DiffTidy.j0 k a0 a1 (decide ((a1.size : Int) > 200)))) else (none)) = some r := H
 have A3 := Aside0.mk A30
 clear A30
 by_cases c4 : t409 = true
 ·subst c4
  have H1 : (if (a0.size : Int) > 300 then (caulkerlaw04_DiffTidy.j0 k a0 a1 true) else (caulkerlaw04_DiffTidy.j0 k a0 a1 (decide ((a1.size : Int) > 200)))) = some r := by rw [if_pos rfl] at H; exact H
  clear H
  have H := H1
  clear H1
  have HC5 := Aside0.mk H
  clear H
  go_enter Try.func9, Try.ntmps9
  go_upto_region 3 with (first | (go_at_call 11; (with_reducible refine (caulkerlaw04_finds.calls k  true _ A3.out).mono ?_); rintro e w6 ⟨rfl, hb⟩; replace HB := pxs HB hb; (try clear hb); (try clear hb2); (try clear hk); (try clear hi)))
  repeat (go_quiet (fail); go_upto_region 3 with (first | (go_at_call 11; (with_reducible refine (caulkerlaw04_finds.calls k  true _ A3.out).mono ?_); rintro e w6 ⟨rfl, hb⟩; replace HB := pxs HB hb; (try clear hb); (try clear hb2); (try clear hk); (try clear hi))))
  (try simp only [Act.put, List.setIfInBounds_toArray, List.set_cons_zero, List.set_cons_succ])
  go_cut [21] (fun v21 wc => ∃ (kq : Nat) (x21_4 : Bool), v21 = .bool x21_4 ∧ Aside0 (caulkerlaw04_DiffTidy.j0 kq a0 a1 x21_4 = some r) ∧ Aside0 (kq ≤ k) ∧ Aside0 (Below w.heap.size w wc))
  case first =>
   have H := HC5.out
   clear HC5
   by_cases c7 : (a0.size : Int) > 300
   ·rw [if_pos c7] at H
    have c7b0 : decide (300 < (a0.size : Int)) = true := decide_eq_true c7
    have c7b1 : decide (300 < a0.size) = true := decide_eq_true (by omega)
    clear c7
    (first | rw [c7b0] | (simp only [i64_w, i32_w]; rw [c7b0]) | skip)
    have H' := Aside0.mk H
    clear H
    go_wp2
    repeat (go_quiet (fail); try go_wp2)
    go_meet
    case rel => exact ⟨_, (true), (by first | rfl | (simp; done) | (simp [*]; done)), H', ⟨by first | omega | exact Nat.le_refl _⟩, ⟨pxb HB⟩⟩
   ·rw [if_neg c7] at H
    have c7b0 : decide (300 < (a0.size : Int)) = false := decide_eq_false c7
    have c7b1 : decide (300 < a0.size) = false := decide_eq_false (by omega)
    clear c7
    (first | rw [c7b0] | (simp only [i64_w, i32_w]; rw [c7b0]) | skip)
    have H' := Aside0.mk H
    clear H
    go_wp2
    repeat (go_quiet (fail); try go_wp2)
    go_meet
    case rel => exact ⟨_, (decide ((a1.size : Int) > 200)), (by first | rfl | (simp; done) | (simp [*]; done)), H', ⟨by first | omega | exact Nat.le_refl _⟩, ⟨pxb HB⟩⟩
  case rest =>
   clear HC5
   (try clear p2); (try clear c4); (try clear c7); (try clear c7b0); (try clear c7b1)
   obtain ⟨kq, x21_4, rfl, HA, HJ4, HB⟩ := hcut
   cases kq with
   | zero => exact absurd HA.out (by simp [caulkerlaw04_DiffTidy.j0])
   | succ kj4 =>
    have H := HA.out
    clear HA
    simp only [caulkerlaw04_DiffTidy.j0] at H
    by_cases c8 : x21_4 = true
    ·subst c8
     have H1 : (some true) = some r := by rw [if_pos rfl] at H; exact H
     clear H
     have H := H1
     clear H1
     obtain rfl := Option.some.inj H
     go_wp2
     repeat (go_quiet (fail); try go_wp2)
     go_ret
     exact ⟨by first | rfl | (simp [errW_none, errW_some] <;> rfl) | (simp [*, errW_none, errW_some] <;> rfl) | (simp [*, pxbeq, pxbne, errW_none, errW_some]; done), pxb HB⟩
    ·replace c8 := Bool.eq_false_iff.mpr c8
     subst c8
     have H1 : ((diff_Bytes.f kj4 a0 a1).bind fun bt410 => (if bt410.2.2 = 0 then ((edit_Check.f kj4 (a0.size : Int) bt410.1).bind fun t415 => (caulkerlaw04_DiffTidy.j1 kj4 a0 bt410.1 (t415 != 0))) else (caulkerlaw04_DiffTidy.j1 kj4 a0 bt410.1 true))) = some r := by rw [if_neg (show ¬ (false = true) by decide)] at H; exact H
     clear H
     have H := H1
     clear H1
     replace H := Option.bind_eq_some_iff.mp H
     obtain ⟨⟨t410, t411, t412⟩, A90, H⟩ := H
     replace H : (if t412 = 0 then ((edit_Check.f kj4 (a0.size : Int) t410).bind fun t415 => (caulkerlaw04_DiffTidy.j1 kj4 a0 t410 (t415 != 0))) else (caulkerlaw04_DiffTidy.j1 kj4 a0 t410 true)) = some r := H
     have A9 := Aside0.mk A90
     clear A90
     have HC10 := Aside0.mk H
     clear H
     go_upto_region 6 with (first | (go_at_call 12; (with_reducible refine (diff_Bytes.calls kj4 a0 a1 t410 t411 t412 _ A9.out).mono ?_); rintro e w11 ⟨v413, rfl, ho0, hb⟩; have HO414 := Aside0.mk (Kd.R_lower ho0 (below_size (pxb HB))); replace HB := pxs HB hb; (try clear hb); (try clear hb2); (try clear hk); (try clear hi); (try clear ho0)))
     repeat (go_quiet (fail); go_upto_region 6 with (first | (go_at_call 12; (with_reducible refine (diff_Bytes.calls kj4 a0 a1 t410 t411 t412 _ A9.out).mono ?_); rintro e w11 ⟨v413, rfl, ho0, hb⟩; have HO414 := Aside0.mk (Kd.R_lower ho0 (below_size (pxb HB))); replace HB := pxs HB hb; (try clear hb); (try clear hb2); (try clear hk); (try clear hi); (try clear ho0))))
     (try simp only [Act.put, List.setIfInBounds_toArray, List.set_cons_zero, List.set_cons_succ])
     go_cut [37] (fun v37 wc => ∃ (kq : Nat) (x37_9 : Bool), v37 = .bool x37_9 ∧ Aside0 (caulkerlaw04_DiffTidy.j1 kq a0 t410 x37_9 = some r) ∧ Aside0 (kq ≤ kj4) ∧ Aside0 (Kd.R k41 41 wc w.heap.size (fun _ => True) v413 t410) ∧ Aside0 (Below w.heap.size w wc))
     case first =>
      have H := HC10.out
      clear HC10
      by_cases c12 : t412 = 0
      ·rw [if_pos c12] at H
       have c12b0 : (t412 == 0) = true := beq_iff_eq.mpr c12
       have c12b1 : (t412 != 0) = false := bne_eq_false_iff_eq.mpr c12
       clear c12
       (first | rw [c12b0] | (simp only [i64_w, i32_w]; rw [c12b0]) | skip)
       replace H := Option.bind_eq_some_iff.mp H
       obtain ⟨t415, A130, H⟩ := H
       replace H : (caulkerlaw04_DiffTidy.j1 kj4 a0 t410 (t415 != 0)) = some r := H
       have A13 := Aside0.mk A130
       clear A130
       have H' := Aside0.mk H
       clear H
       obtain ⟨Ao14, co14, eo14⟩ := Kd.R_slice HO414.out
       subst eo14
       go_wp2_with (first | (go_at_call 19; (with_reducible refine (edit_Check.calls kj4 (a0.size : Int) _ _ t410 t415 _ ?side1 ?side2 A13.out).mono ?_); (case side1 => repeat (first | exact (Kd.R_reads' HO414.out).2.2 | (with_reducible refine Kd.C_alloc ?_ _) | (with_reducible refine Kd.C_drewN ?_ _) | (with_reducible refine Kd.C_drew ?_))); (case side2 => exact (Kd.R_reads' HO414.out).2.1); rintro e w15 ⟨rfl, hb⟩; replace HO414 := Aside0.mk (Kd.R_below (pxr HO414) hb); replace HB := pxs HB hb; (try clear hb); (try clear hb2); (try clear hk); (try clear hi)))
       repeat (go_quiet (fail); try go_wp2_with (first | (go_at_call 19; (with_reducible refine (edit_Check.calls kj4 (a0.size : Int) _ _ t410 t415 _ ?side1 ?side2 A13.out).mono ?_); (case side1 => repeat (first | exact (Kd.R_reads' HO414.out).2.2 | (with_reducible refine Kd.C_alloc ?_ _) | (with_reducible refine Kd.C_drewN ?_ _) | (with_reducible refine Kd.C_drew ?_))); (case side2 => exact (Kd.R_reads' HO414.out).2.1); rintro e w15 ⟨rfl, hb⟩; replace HO414 := Aside0.mk (Kd.R_below (pxr HO414) hb); replace HB := pxs HB hb; (try clear hb); (try clear hb2); (try clear hk); (try clear hi))))
       go_meet
       case rel => exact ⟨_, ((t415 != 0)), (by first | rfl | (simp; done) | (simp [*]; done)), H', ⟨by have := HJ4.out; first | omega | exact Nat.le_refl _⟩, ⟨pxr HO414⟩, ⟨pxb HB⟩⟩
      ·rw [if_neg c12] at H
       have c12b0 : (t412 == 0) = false := beq_eq_false_iff_ne.mpr c12
       have c12b1 : (t412 != 0) = true := bne_iff_ne.mpr c12
       (first | rw [c12b0] | (simp only [i64_w, i32_w]; rw [c12b0]) | skip)
       have H' := Aside0.mk H
       clear H
       go_wp2
       repeat (go_quiet (fail); try go_wp2)
       go_meet
       case rel => exact ⟨_, (true), (by first | rfl | (simp; done) | (simp [*]; done)), H', ⟨by have := HJ4.out; first | omega | exact Nat.le_refl _⟩, ⟨pxr HO414⟩, ⟨pxb HB⟩⟩
     case rest =>
      clear HC10
      (try clear c1); (try clear p2); (try clear c4); (try clear c7); (try clear c7b0); (try clear c7b1); (try clear c8); (try clear c9); (try clear c12); (try clear c12b0); (try clear c12b1)
      obtain ⟨kq, x37_9, rfl, HA, HJ9, HO_5, HB⟩ := hcut
      cases kq with
      | zero => exact absurd HA.out (by simp [caulkerlaw04_DiffTidy.j1])
      | succ kj9 =>
       have H := HA.out
       clear HA
       simp only [caulkerlaw04_DiffTidy.j1] at H
       by_cases c16 : x37_9 = true
       ·subst c16
        have H1 : (none) = some r := by rw [if_pos rfl] at H; exact H
        clear H
        have H := H1
        clear H1
        exact absurd H (by simp)
       ·replace c16 := Bool.eq_false_iff.mpr c16
        subst c16
        have H1 : (caulkerlaw04_DiffTidy.l0 kj9 a0 t410 t410 (t410.length : Int) 0) = some r := by rw [if_neg (show ¬ (false = true) by decide)] at H; exact H
        clear H
        have H := H1
        clear H1
        have H' := Aside0.mk H
        clear H
        obtain ⟨Ao17, co17, eo17⟩ := Kd.R_slice HO_5.out
        subst eo17
        go_wp2
        repeat (go_quiet (fail); try go_wp2)
        go_loopg [40] kj9 (fun kq v40 w' => ∃ (x40_3 : Int), v40 = .int .i64 x40_3 ∧ Aside0 (caulkerlaw04_DiffTidy.l0 kq a0 t410 t410 (t410.length : Int) x40_3 = some r) ∧ Aside0 (kq ≤ kj9) ∧ Aside0 (Kd.R k41 41 w' w.heap.size (fun _ => True) (.slice Ao17 t410.length co17) t410) ∧ Aside0 (Kd.R k41 41 w' w.heap.size (fun _ => True) (.slice Ao17 t410.length co17) t410) ∧ Aside0 (Below w.heap.size w w'))
        case atStart => exact ⟨(0), (by first | rfl | (simp; done) | (simp [*]; done)), H', ⟨Nat.le_refl _⟩, ⟨pxr HO_5⟩, ⟨pxr HO_5⟩, ⟨pxb HB⟩⟩
        case round =>
         clear H'
         (try clear c1); (try clear p2); (try clear c4); (try clear c7); (try clear c7b0); (try clear c7b1); (try clear c8); (try clear c9); (try clear c12); (try clear c12b0); (try clear c12b1); (try clear c16)
         obtain ⟨x40_3, rfl, HA, HK3, HO_5, HO_38, HB⟩ := hrel
         cases gk with
         | zero => exact absurd HA.out (by simp [caulkerlaw04_DiffTidy.l0])
         | succ k3 =>
          have H := HA.out
          clear HA
          simp only [caulkerlaw04_DiffTidy.l0] at H
          by_cases c18 : x40_3 < (t410.length : Int)
          ·rw [if_pos c18] at H
           have c18b0 : decide (x40_3 < (t410.length : Int)) = true := decide_eq_true c18
           clear c18
           by_cases c19 : 0 ≤ x40_3
           ·rw [if_pos c19] at H
            have c19b0 : decide (0 ≤ x40_3) = true := decide_eq_true c19
            clear c19
            by_cases c20 : x40_3 < (t410.length : Int)
            ·rw [if_pos c20] at H
             have c20b0 : decide (x40_3 < (t410.length : Int)) = true := decide_eq_true c20
             clear c20
             by_cases c21 : ((rd_T41 t410 x40_3).f0.f0) = ((rd_T41 t410 x40_3).f0.f1)
             ·rw [if_pos c21] at H
              have c21b0 : (((rd_T41 t410 x40_3).f0.f0) == ((rd_T41 t410 x40_3).f0.f1)) = true := beq_iff_eq.mpr c21
              have c21b1 : (((rd_T41 t410 x40_3).f0.f0) != ((rd_T41 t410 x40_3).f0.f1)) = false := bne_eq_false_iff_eq.mpr c21
              clear c21
              by_cases c22 : ((rd_T41 t410 x40_3).f1).toList = ([] : List UInt8)
              ·rw [if_pos c22] at H
               exact absurd H (by simp)
              ·rw [if_neg c22] at H
               have c22b0 : (((rd_T41 t410 x40_3).f1).toList == ([] : List UInt8)) = false := beq_eq_false_iff_ne.mpr c22
               (try (have c22b0e : (((rd_T41 t410 x40_3).f1).toList.isEmpty) = false := by simpa only [pxbeq, pxbne] using c22b0))
               have c22b1 : (((rd_T41 t410 x40_3).f1).toList != ([] : List UInt8)) = true := bne_iff_ne.mpr c22
               (try (have c22b1e : ((!((rd_T41 t410 x40_3).f1).toList.isEmpty)) = true := by simpa only [pxbeq, pxbne] using c22b1))
               by_cases c23 : x40_3 > 0
               ·rw [if_pos c23] at H
                have c23b0 : decide (0 < x40_3) = true := decide_eq_true c23
                clear c23
                obtain ⟨ji24, hji24⟩ : ∃ j_ : Int, (wrap64 (x40_3 - 1)) = j_ := ⟨_, rfl⟩
                replace H : (if 0 ≤ (ji24) then (if (ji24) < (t410.length : Int) then (if ((rd_T41 t410 (ji24)).f0.f1) ≥ ((rd_T41 t410 x40_3).f0.f0) then (none) else (caulkerlaw04_DiffTidy.l0 k3 a0 t410 t410 (t410.length : Int) (wrap64 (x40_3 + 1)))) else (none)) else (none)) = some r := by first | (rw [hji24] at H; exact H) | (simp only [hji24] at H ⊢; exact H)
                have hji24w : (IntKind.i64.wrap (x40_3 - 1)) = ji24 := (i64_w _).trans hji24
                by_cases c25 : 0 ≤ (ji24)
                ·rw [if_pos c25] at H
                 have c25b0 : decide (0 ≤ (ji24)) = true := decide_eq_true c25
                 clear c25
                 by_cases c26 : (ji24) < (t410.length : Int)
                 ·rw [if_pos c26] at H
                  have c26b0 : decide ((ji24) < (t410.length : Int)) = true := decide_eq_true c26
                  clear c26
                  by_cases c27 : ((rd_T41 t410 (ji24)).f0.f1) ≥ ((rd_T41 t410 x40_3).f0.f0)
                  ·rw [if_pos c27] at H
                   exact absurd H (by simp)
                  ·rw [if_neg c27] at H
                   have c27b0 : decide (((rd_T41 t410 x40_3).f0.f0) ≤ ((rd_T41 t410 (ji24)).f0.f1)) = false := decide_eq_false c27
                   clear c27
                   have H' := Aside0.mk H
                   clear H
                   have p416 : 0 ≤ (x40_3 : Int) := pxd
                   have q416 : x40_3 < (t410.length : Int) := pxd
                   obtain ⟨ad416, e416, hx416_0, hx416_1, hx416_2⟩ := at_T41 (Kd.R_reads' HO_38.out).2.2 x40_3 p416 q416
                   cases e416
                   replace p416 := eq_true p416
                   replace q416 := eq_true q416
                   go_wp2_with (first | ((with_reducible refine gate_dst (N := 9) rfl ?_); refine box_event ?hg (N := 9) ?hd (cs := #[.int .i64 0, .int .i64 0, .string (⟨#[]⟩ : ByteArray)]) (t := 41) ?hr ?_; (case hd => rfl); (case hg => rfl); (case hr => first | (go_simp; done) | (go_simp; rfl)); intro gb417 hg w28 hbox hb; have BK417 := Aside0.mk (hbox); have GW417 := pxw HB hg; have GE417 := pxw HB hg; replace HO_5 := Aside0.mk (Kd.R_below (Kd.R_elderB (pxr HO_5) gb417 (Nat.le_of_eq hg.symm)) hb); replace HO_38 := Aside0.mk (Kd.R_below (Kd.R_elderB (pxr HO_38) gb417 (Nat.le_of_eq hg.symm)) hb); replace HB := pxs HB hb; clear hb hbox hg; obtain ⟨hcz29_0, hcz29_1, hcz29_2, hfz29_0, hfz29_1, hfz29_2⟩ := pxf3 BK417; have p418 : 0 ≤ ((ji24) : Int) := pxd; have q418 : (ji24) < (t410.length : Int) := pxd; obtain ⟨ad418, e418, hx418_0, hx418_1, hx418_2⟩ := at_T41 (Kd.R_reads' HO_5.out).2.2 (ji24) p418 q418; obtain rfl : ad416 = ad418 := (by injection e418); have hn418_0 : ad416.block ≠ gb417 := Kd.own_blk (by first | exact Kd.R_ne HO_5.out BK417.out (by decide) | exact pxne HO_5); have hn418_1 : ad416.block ≠ gb417 := Kd.own_blk (by first | exact Kd.R_ne HO_5.out BK417.out (by decide) | exact pxne HO_5); have hn418_2 : ad416.block ≠ gb417 := Kd.own_blk (by first | exact Kd.R_ne HO_5.out BK417.out (by decide) | exact pxne HO_5); replace hx418_0 := (cell_far (p := ⟨gb417, 0, none⟩) (by first | (rw [add_block]; exact hn418_0) | (show (Addr.add _ _).block ≠ _; rw [add_block]; exact hn418_0) | exact hn418_0) (.int .i64 ((rd_T41 t410 x40_3).f0.f0))).trans hx418_0; replace hx418_1 := (cell_far (p := ⟨gb417, 0, none⟩) (by first | (rw [add_block]; exact hn418_0) | (show (Addr.add _ _).block ≠ _; rw [add_block]; exact hn418_0) | exact hn418_0) (.int .i64 ((rd_T41 t410 x40_3).f0.f0))).trans hx418_1; replace hx418_2 := (cell_far (p := ⟨gb417, 0, none⟩) (by first | (rw [add_block]; exact hn418_0) | (show (Addr.add _ _).block ≠ _; rw [add_block]; exact hn418_0) | exact hn418_0) (.int .i64 ((rd_T41 t410 x40_3).f0.f0))).trans hx418_2; replace hx418_0 := (cell_far (p := ⟨gb417, 1, none⟩) (by first | (rw [add_block]; exact hn418_1) | (show (Addr.add _ _).block ≠ _; rw [add_block]; exact hn418_1) | exact hn418_1) (.int .i64 ((rd_T41 t410 x40_3).f0.f1))).trans hx418_0; replace hx418_1 := (cell_far (p := ⟨gb417, 1, none⟩) (by first | (rw [add_block]; exact hn418_1) | (show (Addr.add _ _).block ≠ _; rw [add_block]; exact hn418_1) | exact hn418_1) (.int .i64 ((rd_T41 t410 x40_3).f0.f1))).trans hx418_1; replace hx418_2 := (cell_far (p := ⟨gb417, 1, none⟩) (by first | (rw [add_block]; exact hn418_1) | (show (Addr.add _ _).block ≠ _; rw [add_block]; exact hn418_1) | exact hn418_1) (.int .i64 ((rd_T41 t410 x40_3).f0.f1))).trans hx418_2; replace hx418_0 := (cell_far (p := ⟨gb417, 2, none⟩) (by first | (rw [add_block]; exact hn418_2) | (show (Addr.add _ _).block ≠ _; rw [add_block]; exact hn418_2) | exact hn418_2) (.string ((rd_T41 t410 x40_3).f1))).trans hx418_0; replace hx418_1 := (cell_far (p := ⟨gb417, 2, none⟩) (by first | (rw [add_block]; exact hn418_2) | (show (Addr.add _ _).block ≠ _; rw [add_block]; exact hn418_2) | exact hn418_2) (.string ((rd_T41 t410 x40_3).f1))).trans hx418_1; replace hx418_2 := (cell_far (p := ⟨gb417, 2, none⟩) (by first | (rw [add_block]; exact hn418_2) | (show (Addr.add _ _).block ≠ _; rw [add_block]; exact hn418_2) | exact hn418_2) (.string ((rd_T41 t410 x40_3).f1))).trans hx418_2; (try have hy418_0 := fun (n_ : Nat) => (show (((((w28.drewN n_).setCell ⟨gb417, 0, none⟩ (.int .i64 ((rd_T41 t410 x40_3).f0.f0))).setCell ⟨gb417, 1, none⟩ (.int .i64 ((rd_T41 t410 x40_3).f0.f1))).setCell ⟨gb417, 2, none⟩ (.string ((rd_T41 t410 x40_3).f1)))).cell? _ = some _ from hx418_0)); (try have hy418_1 := fun (n_ : Nat) => (show (((((w28.drewN n_).setCell ⟨gb417, 0, none⟩ (.int .i64 ((rd_T41 t410 x40_3).f0.f0))).setCell ⟨gb417, 1, none⟩ (.int .i64 ((rd_T41 t410 x40_3).f0.f1))).setCell ⟨gb417, 2, none⟩ (.string ((rd_T41 t410 x40_3).f1)))).cell? _ = some _ from hx418_1)); (try have hy418_2 := fun (n_ : Nat) => (show (((((w28.drewN n_).setCell ⟨gb417, 0, none⟩ (.int .i64 ((rd_T41 t410 x40_3).f0.f0))).setCell ⟨gb417, 1, none⟩ (.int .i64 ((rd_T41 t410 x40_3).f0.f1))).setCell ⟨gb417, 2, none⟩ (.string ((rd_T41 t410 x40_3).f1)))).cell? _ = some _ from hx418_2)); clear hn418_0; clear hn418_1; clear hn418_2; replace p418 := eq_true p418; replace q418 := eq_true q418))
                   repeat (go_quiet (fail); try go_wp2_with (first | ((with_reducible refine gate_dst (N := 9) rfl ?_); refine box_event ?hg (N := 9) ?hd (cs := #[.int .i64 0, .int .i64 0, .string (⟨#[]⟩ : ByteArray)]) (t := 41) ?hr ?_; (case hd => rfl); (case hg => rfl); (case hr => first | (go_simp; done) | (go_simp; rfl)); intro gb417 hg w28 hbox hb; have BK417 := Aside0.mk (hbox); have GW417 := pxw HB hg; have GE417 := pxw HB hg; replace HO_5 := Aside0.mk (Kd.R_below (Kd.R_elderB (pxr HO_5) gb417 (Nat.le_of_eq hg.symm)) hb); replace HO_38 := Aside0.mk (Kd.R_below (Kd.R_elderB (pxr HO_38) gb417 (Nat.le_of_eq hg.symm)) hb); replace HB := pxs HB hb; clear hb hbox hg; obtain ⟨hcz29_0, hcz29_1, hcz29_2, hfz29_0, hfz29_1, hfz29_2⟩ := pxf3 BK417; have p418 : 0 ≤ ((ji24) : Int) := pxd; have q418 : (ji24) < (t410.length : Int) := pxd; obtain ⟨ad418, e418, hx418_0, hx418_1, hx418_2⟩ := at_T41 (Kd.R_reads' HO_5.out).2.2 (ji24) p418 q418; obtain rfl : ad416 = ad418 := (by injection e418); have hn418_0 : ad416.block ≠ gb417 := Kd.own_blk (by first | exact Kd.R_ne HO_5.out BK417.out (by decide) | exact pxne HO_5); have hn418_1 : ad416.block ≠ gb417 := Kd.own_blk (by first | exact Kd.R_ne HO_5.out BK417.out (by decide) | exact pxne HO_5); have hn418_2 : ad416.block ≠ gb417 := Kd.own_blk (by first | exact Kd.R_ne HO_5.out BK417.out (by decide) | exact pxne HO_5); replace hx418_0 := (cell_far (p := ⟨gb417, 0, none⟩) (by first | (rw [add_block]; exact hn418_0) | (show (Addr.add _ _).block ≠ _; rw [add_block]; exact hn418_0) | exact hn418_0) (.int .i64 ((rd_T41 t410 x40_3).f0.f0))).trans hx418_0; replace hx418_1 := (cell_far (p := ⟨gb417, 0, none⟩) (by first | (rw [add_block]; exact hn418_0) | (show (Addr.add _ _).block ≠ _; rw [add_block]; exact hn418_0) | exact hn418_0) (.int .i64 ((rd_T41 t410 x40_3).f0.f0))).trans hx418_1; replace hx418_2 := (cell_far (p := ⟨gb417, 0, none⟩) (by first | (rw [add_block]; exact hn418_0) | (show (Addr.add _ _).block ≠ _; rw [add_block]; exact hn418_0) | exact hn418_0) (.int .i64 ((rd_T41 t410 x40_3).f0.f0))).trans hx418_2; replace hx418_0 := (cell_far (p := ⟨gb417, 1, none⟩) (by first | (rw [add_block]; exact hn418_1) | (show (Addr.add _ _).block ≠ _; rw [add_block]; exact hn418_1) | exact hn418_1) (.int .i64 ((rd_T41 t410 x40_3).f0.f1))).trans hx418_0; replace hx418_1 := (cell_far (p := ⟨gb417, 1, none⟩) (by first | (rw [add_block]; exact hn418_1) | (show (Addr.add _ _).block ≠ _; rw [add_block]; exact hn418_1) | exact hn418_1) (.int .i64 ((rd_T41 t410 x40_3).f0.f1))).trans hx418_1; replace hx418_2 := (cell_far (p := ⟨gb417, 1, none⟩) (by first | (rw [add_block]; exact hn418_1) | (show (Addr.add _ _).block ≠ _; rw [add_block]; exact hn418_1) | exact hn418_1) (.int .i64 ((rd_T41 t410 x40_3).f0.f1))).trans hx418_2; replace hx418_0 := (cell_far (p := ⟨gb417, 2, none⟩) (by first | (rw [add_block]; exact hn418_2) | (show (Addr.add _ _).block ≠ _; rw [add_block]; exact hn418_2) | exact hn418_2) (.string ((rd_T41 t410 x40_3).f1))).trans hx418_0; replace hx418_1 := (cell_far (p := ⟨gb417, 2, none⟩) (by first | (rw [add_block]; exact hn418_2) | (show (Addr.add _ _).block ≠ _; rw [add_block]; exact hn418_2) | exact hn418_2) (.string ((rd_T41 t410 x40_3).f1))).trans hx418_1; replace hx418_2 := (cell_far (p := ⟨gb417, 2, none⟩) (by first | (rw [add_block]; exact hn418_2) | (show (Addr.add _ _).block ≠ _; rw [add_block]; exact hn418_2) | exact hn418_2) (.string ((rd_T41 t410 x40_3).f1))).trans hx418_2; (try have hy418_0 := fun (n_ : Nat) => (show (((((w28.drewN n_).setCell ⟨gb417, 0, none⟩ (.int .i64 ((rd_T41 t410 x40_3).f0.f0))).setCell ⟨gb417, 1, none⟩ (.int .i64 ((rd_T41 t410 x40_3).f0.f1))).setCell ⟨gb417, 2, none⟩ (.string ((rd_T41 t410 x40_3).f1)))).cell? _ = some _ from hx418_0)); (try have hy418_1 := fun (n_ : Nat) => (show (((((w28.drewN n_).setCell ⟨gb417, 0, none⟩ (.int .i64 ((rd_T41 t410 x40_3).f0.f0))).setCell ⟨gb417, 1, none⟩ (.int .i64 ((rd_T41 t410 x40_3).f0.f1))).setCell ⟨gb417, 2, none⟩ (.string ((rd_T41 t410 x40_3).f1)))).cell? _ = some _ from hx418_1)); (try have hy418_2 := fun (n_ : Nat) => (show (((((w28.drewN n_).setCell ⟨gb417, 0, none⟩ (.int .i64 ((rd_T41 t410 x40_3).f0.f0))).setCell ⟨gb417, 1, none⟩ (.int .i64 ((rd_T41 t410 x40_3).f0.f1))).setCell ⟨gb417, 2, none⟩ (.string ((rd_T41 t410 x40_3).f1)))).cell? _ = some _ from hx418_2)); clear hn418_0; clear hn418_1; clear hn418_2; replace p418 := eq_true p418; replace q418 := eq_true q418)))
                   go_roundg k3
                   case measure => have := HJ4.out; have := HJ9.out; have := HK3.out; omega
                   case rel => exact ⟨(wrap64 (x40_3 + 1)), (by first | rfl | (simp; done) | (simp [*]; done)), H', ⟨by have := HJ4.out; have := HJ9.out; have := HK3.out; omega⟩, ⟨by (with_reducible repeat (first | apply Kd.R_alloc | apply Kd.R_drewN | apply Kd.R_drew)); exact Kd.R_mono (Kd.R_far (p := ⟨gb417, 2, none⟩) (Kd.R_far (p := ⟨gb417, 1, none⟩) (Kd.R_far (p := ⟨gb417, 0, none⟩) (Kd.R_mono HO_5.out (fun k_ hk => (⟨hk, hk.2⟩ : _ ∧ k_ ≠ gb417))) (fun _ hk => hk.2) (.int .i64 ((rd_T41 t410 x40_3).f0.f0))) (fun _ hk => hk.2) (.int .i64 ((rd_T41 t410 x40_3).f0.f1))) (fun _ hk => hk.2) (.string ((rd_T41 t410 x40_3).f1))) (fun _ hk => trivial)⟩, ⟨by (with_reducible repeat (first | apply Kd.R_alloc | apply Kd.R_drewN | apply Kd.R_drew)); exact Kd.R_mono (Kd.R_far (p := ⟨gb417, 2, none⟩) (Kd.R_far (p := ⟨gb417, 1, none⟩) (Kd.R_far (p := ⟨gb417, 0, none⟩) (Kd.R_mono HO_38.out (fun k_ hk => (⟨hk, hk.2⟩ : _ ∧ k_ ≠ gb417))) (fun _ hk => hk.2) (.int .i64 ((rd_T41 t410 x40_3).f0.f0))) (fun _ hk => hk.2) (.int .i64 ((rd_T41 t410 x40_3).f0.f1))) (fun _ hk => hk.2) (.string ((rd_T41 t410 x40_3).f1))) (fun _ hk => trivial)⟩, ⟨pxb HB⟩⟩
                 ·rw [if_neg c26] at H
                  exact absurd H (by simp)
                ·rw [if_neg c25] at H
                 exact absurd H (by simp)
               ·rw [if_neg c23] at H
                have c23b0 : decide (0 < x40_3) = false := decide_eq_false c23
                clear c23
                have H' := Aside0.mk H
                clear H
                have p416 : 0 ≤ (x40_3 : Int) := pxd
                have q416 : x40_3 < (t410.length : Int) := pxd
                obtain ⟨ad416, e416, hx416_0, hx416_1, hx416_2⟩ := at_T41 (Kd.R_reads' HO_38.out).2.2 x40_3 p416 q416
                cases e416
                replace p416 := eq_true p416
                replace q416 := eq_true q416
                go_wp2_with (first | ((with_reducible refine gate_dst (N := 9) rfl ?_); refine box_event ?hg (N := 9) ?hd (cs := #[.int .i64 0, .int .i64 0, .string (⟨#[]⟩ : ByteArray)]) (t := 41) ?hr ?_; (case hd => rfl); (case hg => rfl); (case hr => first | (go_simp; done) | (go_simp; rfl)); intro gb417 hg w30 hbox hb; have BK417 := Aside0.mk (hbox); have GW417 := pxw HB hg; have GE417 := pxw HB hg; replace HO_5 := Aside0.mk (Kd.R_below (Kd.R_elderB (pxr HO_5) gb417 (Nat.le_of_eq hg.symm)) hb); replace HO_38 := Aside0.mk (Kd.R_below (Kd.R_elderB (pxr HO_38) gb417 (Nat.le_of_eq hg.symm)) hb); replace HB := pxs HB hb; clear hb hbox hg; obtain ⟨hcz31_0, hcz31_1, hcz31_2, hfz31_0, hfz31_1, hfz31_2⟩ := pxf3 BK417))
                repeat (go_quiet (fail); try go_wp2_with (first | ((with_reducible refine gate_dst (N := 9) rfl ?_); refine box_event ?hg (N := 9) ?hd (cs := #[.int .i64 0, .int .i64 0, .string (⟨#[]⟩ : ByteArray)]) (t := 41) ?hr ?_; (case hd => rfl); (case hg => rfl); (case hr => first | (go_simp; done) | (go_simp; rfl)); intro gb417 hg w30 hbox hb; have BK417 := Aside0.mk (hbox); have GW417 := pxw HB hg; have GE417 := pxw HB hg; replace HO_5 := Aside0.mk (Kd.R_below (Kd.R_elderB (pxr HO_5) gb417 (Nat.le_of_eq hg.symm)) hb); replace HO_38 := Aside0.mk (Kd.R_below (Kd.R_elderB (pxr HO_38) gb417 (Nat.le_of_eq hg.symm)) hb); replace HB := pxs HB hb; clear hb hbox hg; obtain ⟨hcz31_0, hcz31_1, hcz31_2, hfz31_0, hfz31_1, hfz31_2⟩ := pxf3 BK417)))
                go_roundg k3
                case measure => have := HJ4.out; have := HJ9.out; have := HK3.out; omega
                case rel => exact ⟨(wrap64 (x40_3 + 1)), (by first | rfl | (simp; done) | (simp [*]; done)), H', ⟨by have := HJ4.out; have := HJ9.out; have := HK3.out; omega⟩, ⟨by (with_reducible repeat (first | apply Kd.R_alloc | apply Kd.R_drewN | apply Kd.R_drew)); exact Kd.R_mono (Kd.R_far (p := ⟨gb417, 2, none⟩) (Kd.R_far (p := ⟨gb417, 1, none⟩) (Kd.R_far (p := ⟨gb417, 0, none⟩) (Kd.R_mono HO_5.out (fun k_ hk => (⟨hk, hk.2⟩ : _ ∧ k_ ≠ gb417))) (fun _ hk => hk.2) (.int .i64 ((rd_T41 t410 x40_3).f0.f0))) (fun _ hk => hk.2) (.int .i64 ((rd_T41 t410 x40_3).f0.f1))) (fun _ hk => hk.2) (.string ((rd_T41 t410 x40_3).f1))) (fun _ hk => trivial)⟩, ⟨by (with_reducible repeat (first | apply Kd.R_alloc | apply Kd.R_drewN | apply Kd.R_drew)); exact Kd.R_mono (Kd.R_far (p := ⟨gb417, 2, none⟩) (Kd.R_far (p := ⟨gb417, 1, none⟩) (Kd.R_far (p := ⟨gb417, 0, none⟩) (Kd.R_mono HO_38.out (fun k_ hk => (⟨hk, hk.2⟩ : _ ∧ k_ ≠ gb417))) (fun _ hk => hk.2) (.int .i64 ((rd_T41 t410 x40_3).f0.f0))) (fun _ hk => hk.2) (.int .i64 ((rd_T41 t410 x40_3).f0.f1))) (fun _ hk => hk.2) (.string ((rd_T41 t410 x40_3).f1))) (fun _ hk => trivial)⟩, ⟨pxb HB⟩⟩
             ·rw [if_neg c21] at H
              have c21b0 : (((rd_T41 t410 x40_3).f0.f0) == ((rd_T41 t410 x40_3).f0.f1)) = false := beq_eq_false_iff_ne.mpr c21
              have c21b1 : (((rd_T41 t410 x40_3).f0.f0) != ((rd_T41 t410 x40_3).f0.f1)) = true := bne_iff_ne.mpr c21
              by_cases c32 : x40_3 > 0
              ·rw [if_pos c32] at H
               have c32b0 : decide (0 < x40_3) = true := decide_eq_true c32
               clear c32
               obtain ⟨ji33, hji33⟩ : ∃ j_ : Int, (wrap64 (x40_3 - 1)) = j_ := ⟨_, rfl⟩
               replace H : (if 0 ≤ (ji33) then (if (ji33) < (t410.length : Int) then (if ((rd_T41 t410 (ji33)).f0.f1) ≥ ((rd_T41 t410 x40_3).f0.f0) then (none) else (caulkerlaw04_DiffTidy.l0 k3 a0 t410 t410 (t410.length : Int) (wrap64 (x40_3 + 1)))) else (none)) else (none)) = some r := by first | (rw [hji33] at H; exact H) | (simp only [hji33] at H ⊢; exact H)
               have hji33w : (IntKind.i64.wrap (x40_3 - 1)) = ji33 := (i64_w _).trans hji33
               by_cases c34 : 0 ≤ (ji33)
               ·rw [if_pos c34] at H
                have c34b0 : decide (0 ≤ (ji33)) = true := decide_eq_true c34
                clear c34
                by_cases c35 : (ji33) < (t410.length : Int)
                ·rw [if_pos c35] at H
                 have c35b0 : decide ((ji33) < (t410.length : Int)) = true := decide_eq_true c35
                 clear c35
                 by_cases c36 : ((rd_T41 t410 (ji33)).f0.f1) ≥ ((rd_T41 t410 x40_3).f0.f0)
                 ·rw [if_pos c36] at H
                  exact absurd H (by simp)
                 ·rw [if_neg c36] at H
                  have c36b0 : decide (((rd_T41 t410 x40_3).f0.f0) ≤ ((rd_T41 t410 (ji33)).f0.f1)) = false := decide_eq_false c36
                  clear c36
                  have H' := Aside0.mk H
                  clear H
                  have p416 : 0 ≤ (x40_3 : Int) := pxd
                  have q416 : x40_3 < (t410.length : Int) := pxd
                  obtain ⟨ad416, e416, hx416_0, hx416_1, hx416_2⟩ := at_T41 (Kd.R_reads' HO_38.out).2.2 x40_3 p416 q416
                  cases e416
                  replace p416 := eq_true p416
                  replace q416 := eq_true q416
                  go_wp2_with (first | ((with_reducible refine gate_dst (N := 9) rfl ?_); refine box_event ?hg (N := 9) ?hd (cs := #[.int .i64 0, .int .i64 0, .string (⟨#[]⟩ : ByteArray)]) (t := 41) ?hr ?_; (case hd => rfl); (case hg => rfl); (case hr => first | (go_simp; done) | (go_simp; rfl)); intro gb417 hg w37 hbox hb; have BK417 := Aside0.mk (hbox); have GW417 := pxw HB hg; have GE417 := pxw HB hg; replace HO_5 := Aside0.mk (Kd.R_below (Kd.R_elderB (pxr HO_5) gb417 (Nat.le_of_eq hg.symm)) hb); replace HO_38 := Aside0.mk (Kd.R_below (Kd.R_elderB (pxr HO_38) gb417 (Nat.le_of_eq hg.symm)) hb); replace HB := pxs HB hb; clear hb hbox hg; obtain ⟨hcz38_0, hcz38_1, hcz38_2, hfz38_0, hfz38_1, hfz38_2⟩ := pxf3 BK417; have p419 : 0 ≤ ((ji33) : Int) := pxd; have q419 : (ji33) < (t410.length : Int) := pxd; obtain ⟨ad419, e419, hx419_0, hx419_1, hx419_2⟩ := at_T41 (Kd.R_reads' HO_5.out).2.2 (ji33) p419 q419; obtain rfl : ad416 = ad419 := (by injection e419); have hn419_0 : ad416.block ≠ gb417 := Kd.own_blk (by first | exact Kd.R_ne HO_5.out BK417.out (by decide) | exact pxne HO_5); have hn419_1 : ad416.block ≠ gb417 := Kd.own_blk (by first | exact Kd.R_ne HO_5.out BK417.out (by decide) | exact pxne HO_5); have hn419_2 : ad416.block ≠ gb417 := Kd.own_blk (by first | exact Kd.R_ne HO_5.out BK417.out (by decide) | exact pxne HO_5); replace hx419_0 := (cell_far (p := ⟨gb417, 0, none⟩) (by first | (rw [add_block]; exact hn419_0) | (show (Addr.add _ _).block ≠ _; rw [add_block]; exact hn419_0) | exact hn419_0) (.int .i64 ((rd_T41 t410 x40_3).f0.f0))).trans hx419_0; replace hx419_1 := (cell_far (p := ⟨gb417, 0, none⟩) (by first | (rw [add_block]; exact hn419_0) | (show (Addr.add _ _).block ≠ _; rw [add_block]; exact hn419_0) | exact hn419_0) (.int .i64 ((rd_T41 t410 x40_3).f0.f0))).trans hx419_1; replace hx419_2 := (cell_far (p := ⟨gb417, 0, none⟩) (by first | (rw [add_block]; exact hn419_0) | (show (Addr.add _ _).block ≠ _; rw [add_block]; exact hn419_0) | exact hn419_0) (.int .i64 ((rd_T41 t410 x40_3).f0.f0))).trans hx419_2; replace hx419_0 := (cell_far (p := ⟨gb417, 1, none⟩) (by first | (rw [add_block]; exact hn419_1) | (show (Addr.add _ _).block ≠ _; rw [add_block]; exact hn419_1) | exact hn419_1) (.int .i64 ((rd_T41 t410 x40_3).f0.f1))).trans hx419_0; replace hx419_1 := (cell_far (p := ⟨gb417, 1, none⟩) (by first | (rw [add_block]; exact hn419_1) | (show (Addr.add _ _).block ≠ _; rw [add_block]; exact hn419_1) | exact hn419_1) (.int .i64 ((rd_T41 t410 x40_3).f0.f1))).trans hx419_1; replace hx419_2 := (cell_far (p := ⟨gb417, 1, none⟩) (by first | (rw [add_block]; exact hn419_1) | (show (Addr.add _ _).block ≠ _; rw [add_block]; exact hn419_1) | exact hn419_1) (.int .i64 ((rd_T41 t410 x40_3).f0.f1))).trans hx419_2; replace hx419_0 := (cell_far (p := ⟨gb417, 2, none⟩) (by first | (rw [add_block]; exact hn419_2) | (show (Addr.add _ _).block ≠ _; rw [add_block]; exact hn419_2) | exact hn419_2) (.string ((rd_T41 t410 x40_3).f1))).trans hx419_0; replace hx419_1 := (cell_far (p := ⟨gb417, 2, none⟩) (by first | (rw [add_block]; exact hn419_2) | (show (Addr.add _ _).block ≠ _; rw [add_block]; exact hn419_2) | exact hn419_2) (.string ((rd_T41 t410 x40_3).f1))).trans hx419_1; replace hx419_2 := (cell_far (p := ⟨gb417, 2, none⟩) (by first | (rw [add_block]; exact hn419_2) | (show (Addr.add _ _).block ≠ _; rw [add_block]; exact hn419_2) | exact hn419_2) (.string ((rd_T41 t410 x40_3).f1))).trans hx419_2; (try have hy419_0 := fun (n_ : Nat) => (show (((((w37.drewN n_).setCell ⟨gb417, 0, none⟩ (.int .i64 ((rd_T41 t410 x40_3).f0.f0))).setCell ⟨gb417, 1, none⟩ (.int .i64 ((rd_T41 t410 x40_3).f0.f1))).setCell ⟨gb417, 2, none⟩ (.string ((rd_T41 t410 x40_3).f1)))).cell? _ = some _ from hx419_0)); (try have hy419_1 := fun (n_ : Nat) => (show (((((w37.drewN n_).setCell ⟨gb417, 0, none⟩ (.int .i64 ((rd_T41 t410 x40_3).f0.f0))).setCell ⟨gb417, 1, none⟩ (.int .i64 ((rd_T41 t410 x40_3).f0.f1))).setCell ⟨gb417, 2, none⟩ (.string ((rd_T41 t410 x40_3).f1)))).cell? _ = some _ from hx419_1)); (try have hy419_2 := fun (n_ : Nat) => (show (((((w37.drewN n_).setCell ⟨gb417, 0, none⟩ (.int .i64 ((rd_T41 t410 x40_3).f0.f0))).setCell ⟨gb417, 1, none⟩ (.int .i64 ((rd_T41 t410 x40_3).f0.f1))).setCell ⟨gb417, 2, none⟩ (.string ((rd_T41 t410 x40_3).f1)))).cell? _ = some _ from hx419_2)); clear hn419_0; clear hn419_1; clear hn419_2; replace p419 := eq_true p419; replace q419 := eq_true q419))
                  repeat (go_quiet (fail); try go_wp2_with (first | ((with_reducible refine gate_dst (N := 9) rfl ?_); refine box_event ?hg (N := 9) ?hd (cs := #[.int .i64 0, .int .i64 0, .string (⟨#[]⟩ : ByteArray)]) (t := 41) ?hr ?_; (case hd => rfl); (case hg => rfl); (case hr => first | (go_simp; done) | (go_simp; rfl)); intro gb417 hg w37 hbox hb; have BK417 := Aside0.mk (hbox); have GW417 := pxw HB hg; have GE417 := pxw HB hg; replace HO_5 := Aside0.mk (Kd.R_below (Kd.R_elderB (pxr HO_5) gb417 (Nat.le_of_eq hg.symm)) hb); replace HO_38 := Aside0.mk (Kd.R_below (Kd.R_elderB (pxr HO_38) gb417 (Nat.le_of_eq hg.symm)) hb); replace HB := pxs HB hb; clear hb hbox hg; obtain ⟨hcz38_0, hcz38_1, hcz38_2, hfz38_0, hfz38_1, hfz38_2⟩ := pxf3 BK417; have p419 : 0 ≤ ((ji33) : Int) := pxd; have q419 : (ji33) < (t410.length : Int) := pxd; obtain ⟨ad419, e419, hx419_0, hx419_1, hx419_2⟩ := at_T41 (Kd.R_reads' HO_5.out).2.2 (ji33) p419 q419; obtain rfl : ad416 = ad419 := (by injection e419); have hn419_0 : ad416.block ≠ gb417 := Kd.own_blk (by first | exact Kd.R_ne HO_5.out BK417.out (by decide) | exact pxne HO_5); have hn419_1 : ad416.block ≠ gb417 := Kd.own_blk (by first | exact Kd.R_ne HO_5.out BK417.out (by decide) | exact pxne HO_5); have hn419_2 : ad416.block ≠ gb417 := Kd.own_blk (by first | exact Kd.R_ne HO_5.out BK417.out (by decide) | exact pxne HO_5); replace hx419_0 := (cell_far (p := ⟨gb417, 0, none⟩) (by first | (rw [add_block]; exact hn419_0) | (show (Addr.add _ _).block ≠ _; rw [add_block]; exact hn419_0) | exact hn419_0) (.int .i64 ((rd_T41 t410 x40_3).f0.f0))).trans hx419_0; replace hx419_1 := (cell_far (p := ⟨gb417, 0, none⟩) (by first | (rw [add_block]; exact hn419_0) | (show (Addr.add _ _).block ≠ _; rw [add_block]; exact hn419_0) | exact hn419_0) (.int .i64 ((rd_T41 t410 x40_3).f0.f0))).trans hx419_1; replace hx419_2 := (cell_far (p := ⟨gb417, 0, none⟩) (by first | (rw [add_block]; exact hn419_0) | (show (Addr.add _ _).block ≠ _; rw [add_block]; exact hn419_0) | exact hn419_0) (.int .i64 ((rd_T41 t410 x40_3).f0.f0))).trans hx419_2; replace hx419_0 := (cell_far (p := ⟨gb417, 1, none⟩) (by first | (rw [add_block]; exact hn419_1) | (show (Addr.add _ _).block ≠ _; rw [add_block]; exact hn419_1) | exact hn419_1) (.int .i64 ((rd_T41 t410 x40_3).f0.f1))).trans hx419_0; replace hx419_1 := (cell_far (p := ⟨gb417, 1, none⟩) (by first | (rw [add_block]; exact hn419_1) | (show (Addr.add _ _).block ≠ _; rw [add_block]; exact hn419_1) | exact hn419_1) (.int .i64 ((rd_T41 t410 x40_3).f0.f1))).trans hx419_1; replace hx419_2 := (cell_far (p := ⟨gb417, 1, none⟩) (by first | (rw [add_block]; exact hn419_1) | (show (Addr.add _ _).block ≠ _; rw [add_block]; exact hn419_1) | exact hn419_1) (.int .i64 ((rd_T41 t410 x40_3).f0.f1))).trans hx419_2; replace hx419_0 := (cell_far (p := ⟨gb417, 2, none⟩) (by first | (rw [add_block]; exact hn419_2) | (show (Addr.add _ _).block ≠ _; rw [add_block]; exact hn419_2) | exact hn419_2) (.string ((rd_T41 t410 x40_3).f1))).trans hx419_0; replace hx419_1 := (cell_far (p := ⟨gb417, 2, none⟩) (by first | (rw [add_block]; exact hn419_2) | (show (Addr.add _ _).block ≠ _; rw [add_block]; exact hn419_2) | exact hn419_2) (.string ((rd_T41 t410 x40_3).f1))).trans hx419_1; replace hx419_2 := (cell_far (p := ⟨gb417, 2, none⟩) (by first | (rw [add_block]; exact hn419_2) | (show (Addr.add _ _).block ≠ _; rw [add_block]; exact hn419_2) | exact hn419_2) (.string ((rd_T41 t410 x40_3).f1))).trans hx419_2; (try have hy419_0 := fun (n_ : Nat) => (show (((((w37.drewN n_).setCell ⟨gb417, 0, none⟩ (.int .i64 ((rd_T41 t410 x40_3).f0.f0))).setCell ⟨gb417, 1, none⟩ (.int .i64 ((rd_T41 t410 x40_3).f0.f1))).setCell ⟨gb417, 2, none⟩ (.string ((rd_T41 t410 x40_3).f1)))).cell? _ = some _ from hx419_0)); (try have hy419_1 := fun (n_ : Nat) => (show (((((w37.drewN n_).setCell ⟨gb417, 0, none⟩ (.int .i64 ((rd_T41 t410 x40_3).f0.f0))).setCell ⟨gb417, 1, none⟩ (.int .i64 ((rd_T41 t410 x40_3).f0.f1))).setCell ⟨gb417, 2, none⟩ (.string ((rd_T41 t410 x40_3).f1)))).cell? _ = some _ from hx419_1)); (try have hy419_2 := fun (n_ : Nat) => (show (((((w37.drewN n_).setCell ⟨gb417, 0, none⟩ (.int .i64 ((rd_T41 t410 x40_3).f0.f0))).setCell ⟨gb417, 1, none⟩ (.int .i64 ((rd_T41 t410 x40_3).f0.f1))).setCell ⟨gb417, 2, none⟩ (.string ((rd_T41 t410 x40_3).f1)))).cell? _ = some _ from hx419_2)); clear hn419_0; clear hn419_1; clear hn419_2; replace p419 := eq_true p419; replace q419 := eq_true q419)))
                  go_roundg k3
                  case measure => have := HJ4.out; have := HJ9.out; have := HK3.out; omega
                  case rel => exact ⟨(wrap64 (x40_3 + 1)), (by first | rfl | (simp; done) | (simp [*]; done)), H', ⟨by have := HJ4.out; have := HJ9.out; have := HK3.out; omega⟩, ⟨by (with_reducible repeat (first | apply Kd.R_alloc | apply Kd.R_drewN | apply Kd.R_drew)); exact Kd.R_mono (Kd.R_far (p := ⟨gb417, 2, none⟩) (Kd.R_far (p := ⟨gb417, 1, none⟩) (Kd.R_far (p := ⟨gb417, 0, none⟩) (Kd.R_mono HO_5.out (fun k_ hk => (⟨hk, hk.2⟩ : _ ∧ k_ ≠ gb417))) (fun _ hk => hk.2) (.int .i64 ((rd_T41 t410 x40_3).f0.f0))) (fun _ hk => hk.2) (.int .i64 ((rd_T41 t410 x40_3).f0.f1))) (fun _ hk => hk.2) (.string ((rd_T41 t410 x40_3).f1))) (fun _ hk => trivial)⟩, ⟨by (with_reducible repeat (first | apply Kd.R_alloc | apply Kd.R_drewN | apply Kd.R_drew)); exact Kd.R_mono (Kd.R_far (p := ⟨gb417, 2, none⟩) (Kd.R_far (p := ⟨gb417, 1, none⟩) (Kd.R_far (p := ⟨gb417, 0, none⟩) (Kd.R_mono HO_38.out (fun k_ hk => (⟨hk, hk.2⟩ : _ ∧ k_ ≠ gb417))) (fun _ hk => hk.2) (.int .i64 ((rd_T41 t410 x40_3).f0.f0))) (fun _ hk => hk.2) (.int .i64 ((rd_T41 t410 x40_3).f0.f1))) (fun _ hk => hk.2) (.string ((rd_T41 t410 x40_3).f1))) (fun _ hk => trivial)⟩, ⟨pxb HB⟩⟩
                ·rw [if_neg c35] at H
                 exact absurd H (by simp)
               ·rw [if_neg c34] at H
                exact absurd H (by simp)
              ·rw [if_neg c32] at H
               have c32b0 : decide (0 < x40_3) = false := decide_eq_false c32
               clear c32
               have H' := Aside0.mk H
               clear H
               have p416 : 0 ≤ (x40_3 : Int) := pxd
               have q416 : x40_3 < (t410.length : Int) := pxd
               obtain ⟨ad416, e416, hx416_0, hx416_1, hx416_2⟩ := at_T41 (Kd.R_reads' HO_38.out).2.2 x40_3 p416 q416
               cases e416
               replace p416 := eq_true p416
               replace q416 := eq_true q416
               go_wp2_with (first | ((with_reducible refine gate_dst (N := 9) rfl ?_); refine box_event ?hg (N := 9) ?hd (cs := #[.int .i64 0, .int .i64 0, .string (⟨#[]⟩ : ByteArray)]) (t := 41) ?hr ?_; (case hd => rfl); (case hg => rfl); (case hr => first | (go_simp; done) | (go_simp; rfl)); intro gb417 hg w39 hbox hb; have BK417 := Aside0.mk (hbox); have GW417 := pxw HB hg; have GE417 := pxw HB hg; replace HO_5 := Aside0.mk (Kd.R_below (Kd.R_elderB (pxr HO_5) gb417 (Nat.le_of_eq hg.symm)) hb); replace HO_38 := Aside0.mk (Kd.R_below (Kd.R_elderB (pxr HO_38) gb417 (Nat.le_of_eq hg.symm)) hb); replace HB := pxs HB hb; clear hb hbox hg; obtain ⟨hcz40_0, hcz40_1, hcz40_2, hfz40_0, hfz40_1, hfz40_2⟩ := pxf3 BK417))
               repeat (go_quiet (fail); try go_wp2_with (first | ((with_reducible refine gate_dst (N := 9) rfl ?_); refine box_event ?hg (N := 9) ?hd (cs := #[.int .i64 0, .int .i64 0, .string (⟨#[]⟩ : ByteArray)]) (t := 41) ?hr ?_; (case hd => rfl); (case hg => rfl); (case hr => first | (go_simp; done) | (go_simp; rfl)); intro gb417 hg w39 hbox hb; have BK417 := Aside0.mk (hbox); have GW417 := pxw HB hg; have GE417 := pxw HB hg; replace HO_5 := Aside0.mk (Kd.R_below (Kd.R_elderB (pxr HO_5) gb417 (Nat.le_of_eq hg.symm)) hb); replace HO_38 := Aside0.mk (Kd.R_below (Kd.R_elderB (pxr HO_38) gb417 (Nat.le_of_eq hg.symm)) hb); replace HB := pxs HB hb; clear hb hbox hg; obtain ⟨hcz40_0, hcz40_1, hcz40_2, hfz40_0, hfz40_1, hfz40_2⟩ := pxf3 BK417)))
               go_roundg k3
               case measure => have := HJ4.out; have := HJ9.out; have := HK3.out; omega
               case rel => exact ⟨(wrap64 (x40_3 + 1)), (by first | rfl | (simp; done) | (simp [*]; done)), H', ⟨by have := HJ4.out; have := HJ9.out; have := HK3.out; omega⟩, ⟨by (with_reducible repeat (first | apply Kd.R_alloc | apply Kd.R_drewN | apply Kd.R_drew)); exact Kd.R_mono (Kd.R_far (p := ⟨gb417, 2, none⟩) (Kd.R_far (p := ⟨gb417, 1, none⟩) (Kd.R_far (p := ⟨gb417, 0, none⟩) (Kd.R_mono HO_5.out (fun k_ hk => (⟨hk, hk.2⟩ : _ ∧ k_ ≠ gb417))) (fun _ hk => hk.2) (.int .i64 ((rd_T41 t410 x40_3).f0.f0))) (fun _ hk => hk.2) (.int .i64 ((rd_T41 t410 x40_3).f0.f1))) (fun _ hk => hk.2) (.string ((rd_T41 t410 x40_3).f1))) (fun _ hk => trivial)⟩, ⟨by (with_reducible repeat (first | apply Kd.R_alloc | apply Kd.R_drewN | apply Kd.R_drew)); exact Kd.R_mono (Kd.R_far (p := ⟨gb417, 2, none⟩) (Kd.R_far (p := ⟨gb417, 1, none⟩) (Kd.R_far (p := ⟨gb417, 0, none⟩) (Kd.R_mono HO_38.out (fun k_ hk => (⟨hk, hk.2⟩ : _ ∧ k_ ≠ gb417))) (fun _ hk => hk.2) (.int .i64 ((rd_T41 t410 x40_3).f0.f0))) (fun _ hk => hk.2) (.int .i64 ((rd_T41 t410 x40_3).f0.f1))) (fun _ hk => hk.2) (.string ((rd_T41 t410 x40_3).f1))) (fun _ hk => trivial)⟩, ⟨pxb HB⟩⟩
            ·rw [if_neg c20] at H
             exact absurd H (by simp)
           ·rw [if_neg c19] at H
            exact absurd H (by simp)
          ·rw [if_neg c18] at H
           have c18b0 : decide (x40_3 < (t410.length : Int)) = false := decide_eq_false c18
           clear c18
           replace H := Option.bind_eq_some_iff.mp H
           obtain ⟨⟨t420, t421⟩, A410, H⟩ := H
           replace H : (if t421 = 0 then ((edit_Cost.f k3 t420).bind fun t424 => ((edit_Cost.f k3 t410).bind fun t425 => (some (t424 == t425)))) else (none)) = some r := H
           have A41 := Aside0.mk A410
           clear A410
           by_cases c42 : t421 = 0
           ·rw [if_pos c42] at H
            have c42b0 : (t421 == 0) = true := beq_iff_eq.mpr c42
            have c42b1 : (t421 != 0) = false := bne_eq_false_iff_eq.mpr c42
            clear c42
            replace H := Option.bind_eq_some_iff.mp H
            obtain ⟨t424, A430, H⟩ := H
            replace H : ((edit_Cost.f k3 t410).bind fun t425 => (some (t424 == t425))) = some r := H
            have A43 := Aside0.mk A430
            clear A430
            replace H := Option.bind_eq_some_iff.mp H
            obtain ⟨t425, A440, H⟩ := H
            replace H : (some (t424 == t425)) = some r := H
            have A44 := Aside0.mk A440
            clear A440
            obtain rfl := Option.some.inj H
            go_wp2_with (first | (go_at_call 20; (with_reducible refine (edit_Tidy.calls k3 a0 _ _ t410 t420 t421 _ ?side1 ?side2 A41.out).mono ?_); (case side1 => repeat (first | exact (Kd.R_reads' HO_5.out).2.2 | (with_reducible refine Kd.C_alloc ?_ _) | (with_reducible refine Kd.C_drewN ?_ _) | (with_reducible refine Kd.C_drew ?_))); (case side2 => exact (Kd.R_reads' HO_5.out).2.1); rintro e w45 ⟨v422, rfl, ho0, hb⟩; have HO423 := Aside0.mk (Kd.R_lower (Kd.R_new' (Kd.R_new' ho0 (Kd.R_lt (pxr HO_5))) (Kd.R_lt (pxr HO_38))) (below_size (pxb HB))); replace HO_5 := Aside0.mk (Kd.R_elder' (pxr HO_5) (Kd.R_base ho0) hb); replace HO_38 := Aside0.mk (Kd.R_elder' (pxr HO_38) (Kd.R_base ho0) hb); replace HB := pxs HB hb; (try clear hb); (try clear hb2); (try clear hk); (try clear hi); (try clear ho0); obtain ⟨Ao46, co46, eo46⟩ := Kd.R_slice HO423.out; subst eo46) | (go_at_call 16; (with_reducible refine (edit_Cost.calls k3 _ _ t420 t424 _ ?side1 ?side2 A43.out).mono ?_); (case side1 => repeat (first | exact (Kd.R_reads' HO423.out).2.2 | (with_reducible refine Kd.C_alloc ?_ _) | (with_reducible refine Kd.C_drewN ?_ _) | (with_reducible refine Kd.C_drew ?_))); (case side2 => exact (Kd.R_reads' HO423.out).2.1); rintro e w47 ⟨rfl, hb⟩; replace HO_5 := Aside0.mk (Kd.R_below (pxr HO_5) hb); replace HO_38 := Aside0.mk (Kd.R_below (pxr HO_38) hb); replace HO423 := Aside0.mk (Kd.R_below (pxr HO423) hb); replace HB := pxs HB hb; (try clear hb); (try clear hb2); (try clear hk); (try clear hi)) | (go_at_call 16; (with_reducible refine (edit_Cost.calls k3 _ _ t410 t425 _ ?side1 ?side2 A44.out).mono ?_); (case side1 => repeat (first | exact (Kd.R_reads' HO_5.out).2.2 | (with_reducible refine Kd.C_alloc ?_ _) | (with_reducible refine Kd.C_drewN ?_ _) | (with_reducible refine Kd.C_drew ?_))); (case side2 => exact (Kd.R_reads' HO_5.out).2.1); rintro e w48 ⟨rfl, hb⟩; replace HO_5 := Aside0.mk (Kd.R_below (pxr HO_5) hb); replace HO_38 := Aside0.mk (Kd.R_below (pxr HO_38) hb); replace HO423 := Aside0.mk (Kd.R_below (pxr HO423) hb); replace HB := pxs HB hb; (try clear hb); (try clear hb2); (try clear hk); (try clear hi)))
            repeat (go_quiet (fail); try go_wp2_with (first | (go_at_call 20; (with_reducible refine (edit_Tidy.calls k3 a0 _ _ t410 t420 t421 _ ?side1 ?side2 A41.out).mono ?_); (case side1 => repeat (first | exact (Kd.R_reads' HO_5.out).2.2 | (with_reducible refine Kd.C_alloc ?_ _) | (with_reducible refine Kd.C_drewN ?_ _) | (with_reducible refine Kd.C_drew ?_))); (case side2 => exact (Kd.R_reads' HO_5.out).2.1); rintro e w45 ⟨v422, rfl, ho0, hb⟩; have HO423 := Aside0.mk (Kd.R_lower (Kd.R_new' (Kd.R_new' ho0 (Kd.R_lt (pxr HO_5))) (Kd.R_lt (pxr HO_38))) (below_size (pxb HB))); replace HO_5 := Aside0.mk (Kd.R_elder' (pxr HO_5) (Kd.R_base ho0) hb); replace HO_38 := Aside0.mk (Kd.R_elder' (pxr HO_38) (Kd.R_base ho0) hb); replace HB := pxs HB hb; (try clear hb); (try clear hb2); (try clear hk); (try clear hi); (try clear ho0); obtain ⟨Ao46, co46, eo46⟩ := Kd.R_slice HO423.out; subst eo46) | (go_at_call 16; (with_reducible refine (edit_Cost.calls k3 _ _ t420 t424 _ ?side1 ?side2 A43.out).mono ?_); (case side1 => repeat (first | exact (Kd.R_reads' HO423.out).2.2 | (with_reducible refine Kd.C_alloc ?_ _) | (with_reducible refine Kd.C_drewN ?_ _) | (with_reducible refine Kd.C_drew ?_))); (case side2 => exact (Kd.R_reads' HO423.out).2.1); rintro e w47 ⟨rfl, hb⟩; replace HO_5 := Aside0.mk (Kd.R_below (pxr HO_5) hb); replace HO_38 := Aside0.mk (Kd.R_below (pxr HO_38) hb); replace HO423 := Aside0.mk (Kd.R_below (pxr HO423) hb); replace HB := pxs HB hb; (try clear hb); (try clear hb2); (try clear hk); (try clear hi)) | (go_at_call 16; (with_reducible refine (edit_Cost.calls k3 _ _ t410 t425 _ ?side1 ?side2 A44.out).mono ?_); (case side1 => repeat (first | exact (Kd.R_reads' HO_5.out).2.2 | (with_reducible refine Kd.C_alloc ?_ _) | (with_reducible refine Kd.C_drewN ?_ _) | (with_reducible refine Kd.C_drew ?_))); (case side2 => exact (Kd.R_reads' HO_5.out).2.1); rintro e w48 ⟨rfl, hb⟩; replace HO_5 := Aside0.mk (Kd.R_below (pxr HO_5) hb); replace HO_38 := Aside0.mk (Kd.R_below (pxr HO_38) hb); replace HO423 := Aside0.mk (Kd.R_below (pxr HO423) hb); replace HB := pxs HB hb; (try clear hb); (try clear hb2); (try clear hk); (try clear hi))))
            go_ret
            exact ⟨by first | rfl | (simp [errW_none, errW_some] <;> rfl) | (simp [*, errW_none, errW_some] <;> rfl) | (simp [*, pxbeq, pxbne, errW_none, errW_some]; done), pxb HB⟩
           ·rw [if_neg c42] at H
            exact absurd H (by simp)
 ·replace c4 := Bool.eq_false_iff.mpr c4
  subst c4
  have H1 : (none) = some r := by rw [if_neg (show ¬ (false = true) by decide)] at H; exact H
  clear H
  have H := H1
  clear H1
  exact absurd H (by simp)

/-- THE ONE PURE STATEMENT of caulkerlaw04_DiffTidy. -/
def caulkerlaw04_DiffTidy.Pure : Prop := ∀ (a0 : ByteArray) (a1 : ByteArray), a0.size ≤ 140737488351232 → a1.size ≤ 140737488351232 → ∃ k, caulkerlaw04_DiffTidy.f k a0 a1 = some true

end Go.Proofs.Ytoljmjhmieaggaa.X
