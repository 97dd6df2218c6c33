/- What the program's functions answer, as Lean functions, and that each call does just that; no condition. Written by a program (px.py) out of the translation. -/
import Derived.Test.YtoljmjhmieaggaaX0
import Derived.Test.YtoljmjhmieaggaaX12
import Derived.Test.YtoljmjhmieaggaaX16
import Derived.Test.YtoljmjhmieaggaaX11
namespace Go.Proofs.Ytoljmjhmieaggaa.X
open Go.RowKit Go.Proofs.YtoljmjhmieaggaaW.PrintWords Go.Proofs.YtoljmjhmieaggaaW.PrintLast Go.Proofs.YtoljmjhmieaggaaW.PrintMore
attribute [local go_sem] max2_int min2_int max_two min_two max_three min_three max_four min_four   -- for this text's walks alone
set_option linter.unusedVariables false
set_option linter.unusedSimpArgs false

/-! ### caulkerlaw04_DiffPuts: function 7 -/
mutual
def caulkerlaw04_DiffPuts.j0 : Nat → ByteArray → List Int → ByteArray → Bool → Option (Bool)
 | 0, _, _, _, _ => none
 | k + 1, x0, x1, x2, x30 => if x30 = true then (some true) else (caulkerlaw04_DiffPuts.l0 k x0 x2 x0 0 x1 (x1.length : Int) 0)
def caulkerlaw04_DiffPuts.l0 : Nat → ByteArray → ByteArray → ByteArray → Int → List Int → Int → Int → Option (Bool)
 | 0, _, _, _, _, _, _, _ => none
 | k + 1, x0, x2, x7, x8, x32, x33, x34 => if x34 < x33 then (if 0 ≤ x34 then (if x34 < (x32.length : Int) then (if 0 ≤ (mx 0 (mn (rd x32 x34) (x7.size : Int))) then (if (mx 0 (mn (rd x32 x34) (x7.size : Int))) ≤ (x7.size : Int) then (if (x7.extract 0 ((mx 0 (mn (rd x32 x34) (x7.size : Int))) : Int).toNat).size + x2.size ≤ 9223372036854775807 then (if ((x7.extract 0 ((mx 0 (mn (rd x32 x34) (x7.size : Int))) : Int).toNat) ++ x2).size + (x7.extract ((mx 0 (mn (rd x32 x34) (x7.size : Int))) : Int).toNat x7.size).size ≤ 9223372036854775807 then (caulkerlaw04_DiffPuts.l0 k x0 x2 (((x7.extract 0 ((mx 0 (mn (rd x32 x34) (x7.size : Int))) : Int).toNat) ++ x2) ++ (x7.extract ((mx 0 (mn (rd x32 x34) (x7.size : Int))) : Int).toNat x7.size)) (wrap64 (x8 + (x2.size : Int))) x32 x33 (wrap64 (x34 + 1))) else (none)) else (none)) else (none)) else (none)) else (none)) else (none)) else ((diff_Bytes.f k x0 x7).bind fun bt350 => (if bt350.2.2 = 0 then (if bt350.2.1 = true then ((edit_Cost.f k bt350.1).bind fun t355 => (caulkerlaw04_DiffPuts.j2 k bt350.1 (t355 != x8))) else (caulkerlaw04_DiffPuts.j2 k bt350.1 true)) else (caulkerlaw04_DiffPuts.j2 k bt350.1 true)))
def caulkerlaw04_DiffPuts.j2 : Nat → List (S41) → Bool → Option (Bool)
 | 0, _, _ => none
 | k + 1, x11, x75 => if x75 = true then (none) else (caulkerlaw04_DiffPuts.l1 k x11 (x11.length : Int) 0)
def caulkerlaw04_DiffPuts.l1 : Nat → List (S41) → Int → Int → Option (Bool)
 | 0, _, _, _ => none
 | k + 1, x76, x77, x78 => if x78 < x77 then (if 0 ≤ x78 then (if x78 < (x76.length : Int) then (if ((rd_T41 x76 x78).f0.f0) = ((rd_T41 x76 x78).f0.f1) then (caulkerlaw04_DiffPuts.l1 k x76 x77 (wrap64 (x78 + 1))) else (none)) else (none)) else (none)) else (some true)
end
def caulkerlaw04_DiffPuts.f (k : Nat) (a0 : ByteArray) (l1 : List Int) (a2 : ByteArray) : Option (Bool) := (caulkerlaw04_finds.f k).bind fun t348 => (if t348 = true then (if (a0.size : Int) > 300 then (caulkerlaw04_DiffPuts.j0 k a0 l1 a2 true) else (if (l1.length : Int) > 20 then (caulkerlaw04_DiffPuts.j0 k a0 l1 a2 true) else (caulkerlaw04_DiffPuts.j0 k a0 l1 a2 (decide ((a2.size : Int) > 10))))) else (none))
theorem caulkerlaw04_DiffPuts.mono_l : ∀ k, (∀ y0 y1 y2 y3, LeO (caulkerlaw04_DiffPuts.j0 k y0 y1 y2 y3) (caulkerlaw04_DiffPuts.j0 (k + 1) y0 y1 y2 y3)) ∧ (∀ y0 y1 y2 y3 y4 y5 y6, LeO (caulkerlaw04_DiffPuts.l0 k y0 y1 y2 y3 y4 y5 y6) (caulkerlaw04_DiffPuts.l0 (k + 1) y0 y1 y2 y3 y4 y5 y6)) ∧ (∀ y0 y1, LeO (caulkerlaw04_DiffPuts.j2 k y0 y1) (caulkerlaw04_DiffPuts.j2 (k + 1) y0 y1)) ∧ (∀ y0 y1 y2, LeO (caulkerlaw04_DiffPuts.l1 k y0 y1 y2) (caulkerlaw04_DiffPuts.l1 (k + 1) y0 y1 y2))
 | 0 => ⟨fun _ _ _ _ r h => by simp [caulkerlaw04_DiffPuts.j0] at h, fun _ _ _ _ _ _ _ r h => by simp [caulkerlaw04_DiffPuts.l0] at h, fun _ _ r h => by simp [caulkerlaw04_DiffPuts.j2] at h, fun _ _ _ r h => by simp [caulkerlaw04_DiffPuts.l1] at h⟩
 | k + 1 => by
  obtain ⟨ih0, ih1, ih2, ih3⟩ := caulkerlaw04_DiffPuts.mono_l k
  refine ⟨?_, ?_, ?_, ?_⟩
  ·intro y0 y1 y2 y3
   unfold caulkerlaw04_DiffPuts.j0
   repeat' first
   | (with_reducible exact ih0 _ _ _ _)
   | (with_reducible exact ih1 _ _ _ _ _ _ _)
   | (with_reducible exact ih2 _ _)
   | (with_reducible exact ih3 _ _ _)
   | (with_reducible exact caulkerlaw04_finds.mono _)
   | (with_reducible exact diff_Bytes.mono _ _ _)
   | (with_reducible exact edit_Cost.mono _ _)
   | (with_reducible exact LeO.refl _)
   | (with_reducible exact LeO.none _)
   | (with_reducible refine LeO.ite ?_ ?_)
   | (with_reducible refine LeO.bind ?_ (fun _ => ?_))
   | exact ih0 _ _ _ _
   | exact ih1 _ _ _ _ _ _ _
   | exact ih2 _ _
   | exact ih3 _ _ _
   | exact caulkerlaw04_finds.mono _
   | exact diff_Bytes.mono _ _ _
   | exact edit_Cost.mono _ _
   | exact LeO.none _
   | refine LeO.ite ?_ ?_
   | refine LeO.bind ?_ (fun _ => ?_)
  ·intro y0 y1 y2 y3 y4 y5 y6
   unfold caulkerlaw04_DiffPuts.l0
   repeat' first
   | (with_reducible exact ih0 _ _ _ _)
   | (with_reducible exact ih1 _ _ _ _ _ _ _)
   | (with_reducible exact ih2 _ _)
   | (with_reducible exact ih3 _ _ _)
   | (with_reducible exact caulkerlaw04_finds.mono _)
   | (with_reducible exact diff_Bytes.mono _ _ _)
   | (with_reducible exact edit_Cost.mono _ _)
   | (with_reducible exact LeO.refl _)
   | (with_reducible exact LeO.none _)
   | (with_reducible refine LeO.ite ?_ ?_)
   | (with_reducible refine LeO.bind ?_ (fun _ => ?_))
   | exact ih0 _ _ _ _
   | exact ih1 _ _ _ _ _ _ _
   | exact ih2 _ _
   | exact ih3 _ _ _
   | exact caulkerlaw04_finds.mono _
   | exact diff_Bytes.mono _ _ _
   | exact edit_Cost.mono _ _
   | exact LeO.none _
   | refine LeO.ite ?_ ?_
   | refine LeO.bind ?_ (fun _ => ?_)
  ·intro y0 y1
   unfold caulkerlaw04_DiffPuts.j2
   repeat' first
   | (with_reducible exact ih0 _ _ _ _)
   | (with_reducible exact ih1 _ _ _ _ _ _ _)
   | (with_reducible exact ih2 _ _)
   | (with_reducible exact ih3 _ _ _)
   | (with_reducible exact caulkerlaw04_finds.mono _)
   | (with_reducible exact diff_Bytes.mono _ _ _)
   | (with_reducible exact edit_Cost.mono _ _)
   | (with_reducible exact LeO.refl _)
   | (with_reducible exact LeO.none _)
   | (with_reducible refine LeO.ite ?_ ?_)
   | (with_reducible refine LeO.bind ?_ (fun _ => ?_))
   | exact ih0 _ _ _ _
   | exact ih1 _ _ _ _ _ _ _
   | exact ih2 _ _
   | exact ih3 _ _ _
   | exact caulkerlaw04_finds.mono _
   | exact diff_Bytes.mono _ _ _
   | exact edit_Cost.mono _ _
   | exact LeO.none _
   | refine LeO.ite ?_ ?_
   | refine LeO.bind ?_ (fun _ => ?_)
  ·intro y0 y1 y2
   unfold caulkerlaw04_DiffPuts.l1
   repeat' first
   | (with_reducible exact ih0 _ _ _ _)
   | (with_reducible exact ih1 _ _ _ _ _ _ _)
   | (with_reducible exact ih2 _ _)
   | (with_reducible exact ih3 _ _ _)
   | (with_reducible exact caulkerlaw04_finds.mono _)
   | (with_reducible exact diff_Bytes.mono _ _ _)
   | (with_reducible exact edit_Cost.mono _ _)
   | (with_reducible exact LeO.refl _)
   | (with_reducible exact LeO.none _)
   | (with_reducible refine LeO.ite ?_ ?_)
   | (with_reducible refine LeO.bind ?_ (fun _ => ?_))
   | exact ih0 _ _ _ _
   | exact ih1 _ _ _ _ _ _ _
   | exact ih2 _ _
   | exact ih3 _ _ _
   | exact caulkerlaw04_finds.mono _
   | exact diff_Bytes.mono _ _ _
   | exact edit_Cost.mono _ _
   | exact LeO.none _
   | refine LeO.ite ?_ ?_
   | refine LeO.bind ?_ (fun _ => ?_)
theorem caulkerlaw04_DiffPuts.mono : ∀ a0 a1 a2 k, LeO (caulkerlaw04_DiffPuts.f k a0 a1 a2) (caulkerlaw04_DiffPuts.f (k + 1) a0 a1 a2) := by
 intro a0 a1 a2 k
 obtain ⟨ih0, ih1, ih2, ih3⟩ := caulkerlaw04_DiffPuts.mono_l k
 unfold caulkerlaw04_DiffPuts.f
 repeat' first
   | (with_reducible exact ih0 _ _ _ _)
   | (with_reducible exact ih1 _ _ _ _ _ _ _)
   | (with_reducible exact ih2 _ _)
   | (with_reducible exact ih3 _ _ _)
   | (with_reducible exact caulkerlaw04_finds.mono _)
   | (with_reducible exact diff_Bytes.mono _ _ _)
   | (with_reducible exact edit_Cost.mono _ _)
   | (with_reducible exact LeO.refl _)
   | (with_reducible exact LeO.none _)
   | (with_reducible refine LeO.ite ?_ ?_)
   | (with_reducible refine LeO.bind ?_ (fun _ => ?_))
   | exact ih0 _ _ _ _
   | exact ih1 _ _ _ _ _ _ _
   | exact ih2 _ _
   | exact ih3 _ _ _
   | exact caulkerlaw04_finds.mono _
   | exact diff_Bytes.mono _ _ _
   | exact edit_Cost.mono _ _
   | exact LeO.none _
   | refine LeO.ite ?_ ?_
   | refine LeO.bind ?_ (fun _ => ?_)
set_option maxHeartbeats 8000000 in
set_option maxRecDepth 100000 in
theorem caulkerlaw04_DiffPuts.calls (k : Nat) (a0 : ByteArray) (A1 : Option Addr) (c1 : Nat) (l1 : List Int) (a2 : ByteArray) (r : Bool) (w : World) (hr1 : Kd.C (Kd.int .i64) w A1 l1.length l1) (hc1 : l1.length ≤ c1) (h : caulkerlaw04_DiffPuts.f k a0 l1 a2 = some r) :
  Calls Try.prog 7 #[.string a0, .slice A1 l1.length c1, .string a2] w fun e w' => e = .returned (.bool r) ∧ Below w.heap.size w w' := by
 have hu41 := Try.underlying41
 have HR1 := Aside0.mk hr1
 have HC1 := Aside0.mk hc1
 clear hr1 hc1
 have HB := Aside0.mk (Below.refl w.heap.size w)
 have H : ((caulkerlaw04_finds.f k).bind fun t348 => (if t348 = true then (if (a0.size : Int) > 300 then (caulkerlaw04_DiffPuts.j0 k a0 l1 a2 true) else (if (l1.length : Int) > 20 then (caulkerlaw04_DiffPuts.j0 k a0 l1 a2 true) else (caulkerlaw04_DiffPuts.j0 k a0 l1 a2 (decide ((a2.size : Int) > 10))))) else (none))) = some r := h
 clear h
 replace H := Option.bind_eq_some_iff.mp H
 obtain ⟨t348, A40, H⟩ := H
 replace H : (if t348 = true then (if (a0.size : Int) > 300 then (caulkerlaw04_DiffPuts.j0 k a0 l1 a2 true) else (if (l1.length : Int) > 20 then (caulkerlaw04_DiffPuts.j0 k a0 l1 a2 true) else (caulkerlaw04_DiffPuts.j0 k a0 l1 a2 (decide ((a2.size : Int) > 10))))) else (none)) = some r := H
 have A4 := Aside0.mk A40
 clear A40
 by_cases c5 : t348 = true
 ·subst c5
  have H1 : (if (a0.size : Int) > 300 then (caulkerlaw04_DiffPuts.j0 k a0 l1 a2 true) else (if (l1.length : Int) > 20 then (caulkerlaw04_DiffPuts.j0 k a0 l1 a2 true) else (caulkerlaw04_DiffPuts.j0 k a0 l1 a2 (decide ((a2.size : Int) > 10))))) = some r := by rw [if_pos rfl] at H; exact H
  clear H
  have H := H1
  clear H1
  have HC6 := Aside0.mk H
  clear H
  go_enter Try.func7, Try.ntmps7
  go_upto_region 3 with (first | (go_at_call 11; (with_reducible refine (caulkerlaw04_finds.calls k  true _ A4.out).mono ?_); rintro e w7 ⟨rfl, hb⟩; have n0_ := pxs HB hb; clear HB; have HB := n0_; clear n0_; (try clear hb); (try clear hb2); (try clear hk); (try clear hi)))
  repeat (go_quiet (first | (go_at_call 11; (with_reducible refine (caulkerlaw04_finds.calls k  true _ A4.out).mono ?_); rintro e w7 ⟨rfl, hb⟩; have n0_ := pxs HB hb; clear HB; have HB := n0_; clear n0_; (try clear hb); (try clear hb2); (try clear hk); (try clear hi))); go_upto_region 3 with (first | (go_at_call 11; (with_reducible refine (caulkerlaw04_finds.calls k  true _ A4.out).mono ?_); rintro e w7 ⟨rfl, hb⟩; have n0_ := pxs HB hb; clear HB; have HB := n0_; clear n0_; (try clear hb); (try clear hb2); (try clear hk); (try clear hi))))
  (try simp only [Act.put, List.setIfInBounds_toArray, List.set_cons_zero, List.set_cons_succ])
  go_cut [30] (fun v30 wc => ∃ (kq : Nat) (x30_5 : Bool), v30 = .bool x30_5 ∧ Aside0 (caulkerlaw04_DiffPuts.j0 kq a0 l1 a2 x30_5 = some r) ∧ Aside0 (kq ≤ k) ∧ Aside0 (Below w.heap.size w wc))
  case first =>
   have H := HC6.out
   clear HC6
   by_cases c8 : (a0.size : Int) > 300
   ·rw [if_pos c8] at H
    have c8b0 : decide (300 < (a0.size : Int)) = true := decide_eq_true c8
    have c8b1 : decide (300 < a0.size) = true := decide_eq_true (by omega)
    clear c8
    (first | rw [c8b0] | (simp only [i64_w, i32_w]; rw [c8b0]) | skip)
    have H' := Aside0.mk H
    clear H
    go_wp2
    repeat (go_quiet (fail); try go_wp2)
    go_meet
    case rel => exact ⟨_, (true), (by first | rfl | (simp; done) | (simp [*]; done)), H', ⟨by first | omega | exact Nat.le_refl _⟩, ⟨pxb HB⟩⟩
   ·rw [if_neg c8] at H
    have c8b0 : decide (300 < (a0.size : Int)) = false := decide_eq_false c8
    have c8b1 : decide (300 < a0.size) = false := decide_eq_false (by omega)
    clear c8
    (first | rw [c8b0] | (simp only [i64_w, i32_w]; rw [c8b0]) | skip)
    by_cases c9 : (l1.length : Int) > 20
    ·rw [if_pos c9] at H
     have c9b0 : decide (20 < (l1.length : Int)) = true := decide_eq_true c9
     have c9b1 : decide (20 < l1.length) = true := decide_eq_true (by omega)
     clear c9
     have H' := Aside0.mk H
     clear H
     go_wp2
     repeat (go_quiet (fail); try go_wp2)
     go_meet
     case rel => exact ⟨_, (true), (by first | rfl | (simp; done) | (simp [*]; done)), H', ⟨by first | omega | exact Nat.le_refl _⟩, ⟨pxb HB⟩⟩
    ·rw [if_neg c9] at H
     have c9b0 : decide (20 < (l1.length : Int)) = false := decide_eq_false c9
     have c9b1 : decide (20 < l1.length) = false := decide_eq_false (by omega)
     clear c9
     have H' := Aside0.mk H
     clear H
     go_wp2
     repeat (go_quiet (fail); try go_wp2)
     go_meet
     case rel => exact ⟨_, (decide ((a2.size : Int) > 10)), (by first | rfl | (simp; done) | (simp [*]; done)), H', ⟨by first | omega | exact Nat.le_refl _⟩, ⟨pxb HB⟩⟩
  case rest =>
   clear HC6
   try clear c1
   try clear p2
   try clear c5
   try clear c7
   try clear c8
   try clear c8b0
   try clear c8b1
   try clear c9
   try clear c9b0
   try clear c9b1
   obtain ⟨kq, x30_5, rfl, HA, HJ5, HB⟩ := hcut
   cases kq with
   | zero => exact absurd HA.out (by simp [caulkerlaw04_DiffPuts.j0])
   | succ kj5 =>
    have H := HA.out
    clear HA
    simp only [caulkerlaw04_DiffPuts.j0] at H
    by_cases c10 : x30_5 = true
    ·subst c10
     have H1 : (some true) = some r := by rw [if_pos rfl] at H; exact H
     clear H
     have H := H1
     clear H1
     obtain rfl := Option.some.inj H
     go_wp2
     repeat (go_quiet (fail); try go_wp2)
     go_ret
     exact ⟨by first | rfl | (simp [errW_none, errW_some] <;> rfl) | (simp [*, errW_none, errW_some] <;> rfl), pxb HB⟩
    ·replace c10 := Bool.eq_false_iff.mpr c10
     subst c10
     have H1 : (caulkerlaw04_DiffPuts.l0 kj5 a0 a2 a0 0 l1 (l1.length : Int) 0) = some r := by rw [if_neg (show ¬ (false = true) by decide)] at H; exact H
     clear H
     have H := H1
     clear H1
     have H' := Aside0.mk H
     clear H
     go_wp2
     repeat (go_quiet (fail); try go_wp2)
     go_loopg [7, 8, 34] kj5 (fun kq v7 v8 v34 w' => ∃ (x7_2 : ByteArray) (x8_2 : Int) (x34_2 : Int), v7 = .string x7_2 ∧ v8 = .int .i64 x8_2 ∧ v34 = .int .i64 x34_2 ∧ Aside0 (caulkerlaw04_DiffPuts.l0 kq a0 a2 x7_2 x8_2 l1 (l1.length : Int) x34_2 = some r) ∧ Aside0 (kq ≤ kj5) ∧ Aside0 (Below w.heap.size w w'))
     case atStart => exact ⟨(a0), (0), (0), (by first | rfl | (simp; done) | (simp [*]; done)), (by first | rfl | (simp; done) | (simp [*]; done)), (by first | rfl | (simp; done) | (simp [*]; done)), H', ⟨Nat.le_refl _⟩, ⟨pxb HB⟩⟩
     case round =>
      clear H'
      try clear c1
      try clear p2
      try clear c5
      try clear c7
      try clear c8
      try clear c8b0
      try clear c8b1
      try clear c9
      try clear c9b0
      try clear c9b1
      try clear c10
      try clear p2
      obtain ⟨x7_2, x8_2, x34_2, rfl, rfl, rfl, HA, HK2, HB⟩ := hrel
      cases gk with
      | zero => exact absurd HA.out (by simp [caulkerlaw04_DiffPuts.l0])
      | succ k2 =>
       have H := HA.out
       clear HA
       simp only [caulkerlaw04_DiffPuts.l0] at H
       by_cases c11 : x34_2 < (l1.length : Int)
       ·rw [if_pos c11] at H
        have c11b0 : decide (x34_2 < (l1.length : Int)) = true := decide_eq_true c11
        clear c11
        by_cases c12 : 0 ≤ x34_2
        ·rw [if_pos c12] at H
         have c12b0 : decide (0 ≤ x34_2) = true := decide_eq_true c12
         clear c12
         by_cases c13 : x34_2 < (l1.length : Int)
         ·rw [if_pos c13] at H
          have c13b0 : decide (x34_2 < (l1.length : Int)) = true := decide_eq_true c13
          clear c13
          obtain ⟨ji14, hji14⟩ : ∃ j_ : Int, (mn (rd l1 x34_2) (x7_2.size : Int)) = j_ := ⟨_, rfl⟩
          replace H : (if 0 ≤ (mx 0 (ji14)) then (if (mx 0 (ji14)) ≤ (x7_2.size : Int) then (if (x7_2.extract 0 ((mx 0 (ji14)) : Int).toNat).size + a2.size ≤ 9223372036854775807 then (if ((x7_2.extract 0 ((mx 0 (ji14)) : Int).toNat) ++ a2).size + (x7_2.extract ((mx 0 (ji14)) : Int).toNat x7_2.size).size ≤ 9223372036854775807 then (caulkerlaw04_DiffPuts.l0 k2 a0 a2 (((x7_2.extract 0 ((mx 0 (ji14)) : Int).toNat) ++ a2) ++ (x7_2.extract ((mx 0 (ji14)) : Int).toNat x7_2.size)) (wrap64 (x8_2 + (a2.size : Int))) l1 (l1.length : Int) (wrap64 (x34_2 + 1))) else (none)) else (none)) else (none)) else (none)) = some r := by first | (rw [hji14] at H; exact H) | (simp only [hji14] at H ⊢; exact H)
          have hji14_ : (if (x7_2.size : Int) < (rd l1 x34_2) then (x7_2.size : Int) else (rd l1 x34_2)) = ji14 := hji14
          obtain ⟨ji15, hji15⟩ : ∃ j_ : Int, (mx 0 (ji14)) = j_ := ⟨_, rfl⟩
          replace H : (if 0 ≤ (ji15) then (if (ji15) ≤ (x7_2.size : Int) then (if (x7_2.extract 0 ((ji15) : Int).toNat).size + a2.size ≤ 9223372036854775807 then (if ((x7_2.extract 0 ((ji15) : Int).toNat) ++ a2).size + (x7_2.extract ((ji15) : Int).toNat x7_2.size).size ≤ 9223372036854775807 then (caulkerlaw04_DiffPuts.l0 k2 a0 a2 (((x7_2.extract 0 ((ji15) : Int).toNat) ++ a2) ++ (x7_2.extract ((ji15) : Int).toNat x7_2.size)) (wrap64 (x8_2 + (a2.size : Int))) l1 (l1.length : Int) (wrap64 (x34_2 + 1))) else (none)) else (none)) else (none)) else (none)) = some r := by first | (rw [hji15] at H; exact H) | (simp only [hji15] at H ⊢; exact H)
          have hji15_ : (if 0 < (ji14) then (ji14) else 0) = ji15 := hji15
          by_cases c16 : 0 ≤ (ji15)
          ·rw [if_pos c16] at H
           have c16b0 := eq_true c16
           have c16b1 : decide (0 ≤ (ji15)) = true := decide_eq_true c16
           clear c16
           by_cases c17 : (ji15) ≤ (x7_2.size : Int)
           ·rw [if_pos c17] at H
            have c17b0 := eq_true c17
            have c17b1 : decide ((ji15) ≤ (x7_2.size : Int)) = true := decide_eq_true c17
            clear c17
            by_cases c18 : (x7_2.extract 0 ((ji15) : Int).toNat).size + a2.size ≤ 9223372036854775807
            ·rw [if_pos c18] at H
             have c18b0 := eq_true c18
             have c18b1 : decide ((x7_2.extract 0 ((ji15) : Int).toNat).size + a2.size ≤ 9223372036854775807) = true := decide_eq_true c18
             try have c18b2 : (9223372036854775807 < (x7_2.extract 0 ((ji15) : Int).toNat).size + a2.size) = False := eq_false (Nat.not_lt.2 c18)
             have c19b0 := eq_true (of_decide_eq_true (by first | (with_reducible assumption) | assumption) : 0 ≤ (ji15))
             have c20b0 := eq_true (of_decide_eq_true (by first | (with_reducible assumption) | assumption) : (ji15) ≤ (x7_2.size : Int))
             by_cases c21 : ((x7_2.extract 0 ((ji15) : Int).toNat) ++ a2).size + (x7_2.extract ((ji15) : Int).toNat x7_2.size).size ≤ 9223372036854775807
             ·rw [if_pos c21] at H
              have c21b0 := eq_true c21
              have c21b1 : decide (((x7_2.extract 0 ((ji15) : Int).toNat) ++ a2).size + (x7_2.extract ((ji15) : Int).toNat x7_2.size).size ≤ 9223372036854775807) = true := decide_eq_true c21
              try have c21b2 : (9223372036854775807 < ((x7_2.extract 0 ((ji15) : Int).toNat) ++ a2).size + (x7_2.extract ((ji15) : Int).toNat x7_2.size).size) = False := eq_false (Nat.not_lt.2 c21)
              have H' := Aside0.mk H
              clear H
              have p349 : 0 ≤ (x34_2 : Int) := of_decide_eq_true (by first | (with_reducible assumption) | assumption)
              have q349 : x34_2 < (l1.length : Int) := of_decide_eq_true (by first | (with_reducible assumption) | assumption)
              obtain ⟨ad349, e349, hx349_0⟩ := Kd.at_int HR1.out x34_2 p349 q349
              cases e349
              replace hx349_0 := (HB.out.cell (World.block_lt_of_cell? w _ hx349_0)).trans hx349_0
              replace p349 := eq_true p349
              replace q349 := eq_true q349
              go_wp2
              repeat (go_quiet (fail); try go_wp2)
              go_roundg k2
              case measure => have := HJ5.out; have := HK2.out; omega
              case rel => exact ⟨(((x7_2.extract 0 ((ji15) : Int).toNat) ++ a2) ++ (x7_2.extract ((ji15) : Int).toNat x7_2.size)), (wrap64 (x8_2 + (a2.size : Int))), (wrap64 (x34_2 + 1)), (by first | rfl | (simp; done) | (simp only [← hji15] <;> (first | rfl | simp)) | (simp [*]; done)), (by first | rfl | (simp; done) | (simp [*]; done)), (by first | rfl | (simp; done) | (simp [*]; done)), H', ⟨by have := HJ5.out; have := HK2.out; omega⟩, ⟨pxb HB⟩⟩
             ·rw [if_neg c21] at H
              exact absurd H (by simp)
            ·rw [if_neg c18] at H
             exact absurd H (by simp)
           ·rw [if_neg c17] at H
            exact absurd H (by simp)
          ·rw [if_neg c16] at H
           exact absurd H (by simp)
         ·rw [if_neg c13] at H
          exact absurd H (by simp)
        ·rw [if_neg c12] at H
         exact absurd H (by simp)
       ·rw [if_neg c11] at H
        have c11b0 : decide (x34_2 < (l1.length : Int)) = false := decide_eq_false c11
        clear c11
        replace H := Option.bind_eq_some_iff.mp H
        obtain ⟨⟨t350, t351, t352⟩, A220, H⟩ := H
        replace H : (if t352 = 0 then (if t351 = true then ((edit_Cost.f k2 t350).bind fun t355 => (caulkerlaw04_DiffPuts.j2 k2 t350 (t355 != x8_2))) else (caulkerlaw04_DiffPuts.j2 k2 t350 true)) else (caulkerlaw04_DiffPuts.j2 k2 t350 true)) = some r := H
        have A22 := Aside0.mk A220
        clear A220
        have HC23 := Aside0.mk H
        clear H
        go_upto_region 14 with (first | (go_at_call 12; (with_reducible refine (diff_Bytes.calls k2 a0 x7_2 t350 t351 t352 _ A22.out).mono ?_); rintro e w24 ⟨v353, rfl, ho0, hb⟩; have n0_ := Aside0.mk (Kd.R_lower ho0 (below_size (pxb HB))); have n1_ := pxs HB hb; clear HB; have HO354 := n0_; have HB := n1_; clear n0_ n1_; (try clear hb); (try clear hb2); (try clear hk); (try clear hi); (try clear ho0)))
        repeat (go_quiet (first | (go_at_call 12; (with_reducible refine (diff_Bytes.calls k2 a0 x7_2 t350 t351 t352 _ A22.out).mono ?_); rintro e w24 ⟨v353, rfl, ho0, hb⟩; have n0_ := Aside0.mk (Kd.R_lower ho0 (below_size (pxb HB))); have n1_ := pxs HB hb; clear HB; have HO354 := n0_; have HB := n1_; clear n0_ n1_; (try clear hb); (try clear hb2); (try clear hk); (try clear hi); (try clear ho0))); go_upto_region 14 with (first | (go_at_call 12; (with_reducible refine (diff_Bytes.calls k2 a0 x7_2 t350 t351 t352 _ A22.out).mono ?_); rintro e w24 ⟨v353, rfl, ho0, hb⟩; have n0_ := Aside0.mk (Kd.R_lower ho0 (below_size (pxb HB))); have n1_ := pxs HB hb; clear HB; have HO354 := n0_; have HB := n1_; clear n0_ n1_; (try clear hb); (try clear hb2); (try clear hk); (try clear hi); (try clear ho0))))
        (try simp only [Act.put, List.setIfInBounds_toArray, List.set_cons_zero, List.set_cons_succ])
        go_cut [75] (fun v75 wc => ∃ (kq : Nat) (x75_22 : Bool), v75 = .bool x75_22 ∧ Aside0 (caulkerlaw04_DiffPuts.j2 kq t350 x75_22 = some r) ∧ Aside0 (kq ≤ k2) ∧ Aside0 (Kd.R k41 41 wc w.heap.size (fun _ => True) v353 t350) ∧ Aside0 (Below w.heap.size w wc))
        case first =>
         have H := HC23.out
         clear HC23
         by_cases c25 : t352 = 0
         ·rw [if_pos c25] at H
          have c25b0 : (t352 == 0) = true := beq_iff_eq.mpr c25
          have c25b1 : (t352 != 0) = false := bne_eq_false_iff_eq.mpr c25
          clear c25
          (first | rw [c25b0] | (simp only [i64_w, i32_w]; rw [c25b0]) | skip)
          by_cases c26 : t351 = true
          ·subst c26
           have H1 : ((edit_Cost.f k2 t350).bind fun t355 => (caulkerlaw04_DiffPuts.j2 k2 t350 (t355 != x8_2))) = some r := by rw [if_pos rfl] at H; exact H
           clear H
           have H := H1
           clear H1
           replace H := Option.bind_eq_some_iff.mp H
           obtain ⟨t355, A270, H⟩ := H
           replace H : (caulkerlaw04_DiffPuts.j2 k2 t350 (t355 != x8_2)) = some r := H
           have A27 := Aside0.mk A270
           clear A270
           have H' := Aside0.mk H
           clear H
           obtain ⟨Ao28, co28, eo28⟩ := Kd.R_slice HO354.out
           subst eo28
           go_wp2_with (first | (go_at_call 16; (with_reducible refine (edit_Cost.calls k2 _ _ t350 t355 _ ?side1 ?side2 A27.out).mono ?_); (case side1 => repeat (first | exact (Kd.R_reads' HO354.out).2.2 | (with_reducible refine Kd.C_alloc ?_ _) | (with_reducible refine Kd.C_drewN ?_ _) | (with_reducible refine Kd.C_drew ?_))); (case side2 => exact (Kd.R_reads' HO354.out).2.1); rintro e w29 ⟨rfl, hb⟩; have n0_ := Aside0.mk (Kd.R_below (pxr HO354) hb); have n1_ := pxs HB hb; clear HO354; clear HB; have HO354 := n0_; have HB := n1_; clear n0_ n1_; (try clear hb); (try clear hb2); (try clear hk); (try clear hi)))
           repeat (go_quiet (first | (go_at_call 16; (with_reducible refine (edit_Cost.calls k2 _ _ t350 t355 _ ?side1 ?side2 A27.out).mono ?_); (case side1 => repeat (first | exact (Kd.R_reads' HO354.out).2.2 | (with_reducible refine Kd.C_alloc ?_ _) | (with_reducible refine Kd.C_drewN ?_ _) | (with_reducible refine Kd.C_drew ?_))); (case side2 => exact (Kd.R_reads' HO354.out).2.1); rintro e w29 ⟨rfl, hb⟩; have n0_ := Aside0.mk (Kd.R_below (pxr HO354) hb); have n1_ := pxs HB hb; clear HO354; clear HB; have HO354 := n0_; have HB := n1_; clear n0_ n1_; (try clear hb); (try clear hb2); (try clear hk); (try clear hi))); try go_wp2_with (first | (go_at_call 16; (with_reducible refine (edit_Cost.calls k2 _ _ t350 t355 _ ?side1 ?side2 A27.out).mono ?_); (case side1 => repeat (first | exact (Kd.R_reads' HO354.out).2.2 | (with_reducible refine Kd.C_alloc ?_ _) | (with_reducible refine Kd.C_drewN ?_ _) | (with_reducible refine Kd.C_drew ?_))); (case side2 => exact (Kd.R_reads' HO354.out).2.1); rintro e w29 ⟨rfl, hb⟩; have n0_ := Aside0.mk (Kd.R_below (pxr HO354) hb); have n1_ := pxs HB hb; clear HO354; clear HB; have HO354 := n0_; have HB := n1_; clear n0_ n1_; (try clear hb); (try clear hb2); (try clear hk); (try clear hi))))
           go_meet
           case rel => exact ⟨_, ((t355 != x8_2)), (by first | rfl | (simp; done) | (simp [*]; done)), H', ⟨by have := HJ5.out; have := HK2.out; first | omega | exact Nat.le_refl _⟩, ⟨pxr HO354⟩, ⟨pxb HB⟩⟩
          ·replace c26 := Bool.eq_false_iff.mpr c26
           subst c26
           have H1 : (caulkerlaw04_DiffPuts.j2 k2 t350 true) = some r := by rw [if_neg (show ¬ (false = true) by decide)] at H; exact H
           clear H
           have H := H1
           clear H1
           have H' := Aside0.mk H
           clear H
           go_wp2
           repeat (go_quiet (fail); try go_wp2)
           go_meet
           case rel => exact ⟨_, (true), (by first | rfl | (simp; done) | (simp [*]; done)), H', ⟨by have := HJ5.out; have := HK2.out; first | omega | exact Nat.le_refl _⟩, ⟨pxr HO354⟩, ⟨pxb HB⟩⟩
         ·rw [if_neg c25] at H
          have c25b0 : (t352 == 0) = false := beq_eq_false_iff_ne.mpr c25
          have c25b1 : (t352 != 0) = true := bne_iff_ne.mpr c25
          (first | rw [c25b0] | (simp only [i64_w, i32_w]; rw [c25b0]) | skip)
          have H' := Aside0.mk H
          clear H
          go_wp2
          repeat (go_quiet (fail); try go_wp2)
          go_meet
          case rel => exact ⟨_, (true), (by first | rfl | (simp; done) | (simp [*]; done)), H', ⟨by have := HJ5.out; have := HK2.out; first | omega | exact Nat.le_refl _⟩, ⟨pxr HO354⟩, ⟨pxb HB⟩⟩
        case rest =>
         clear HC23
         try clear c1
         try clear c2
         try clear p2
         try clear p3
         try clear q3
         try clear hx3
         try clear c5
         try clear p6
         try clear c7
         try clear c8
         try clear c8b0
         try clear c8b1
         try clear c9
         try clear c9b0
         try clear c9b1
         try clear c10
         try clear c11
         try clear c11b0
         try clear c12
         try clear c12b0
         try clear c13
         try clear c13b0
         try clear c16
         try clear c16b0
         try clear c16b1
         try clear c17
         try clear c17b0
         try clear c17b1
         try clear c18
         try clear c18b0
         try clear c18b1
         try clear c18b2
         try clear c19
         try clear c19b0
         try clear c20
         try clear c20b0
         try clear c21
         try clear c21b0
         try clear c21b1
         try clear c21b2
         try clear c25
         try clear c25b0
         try clear c25b1
         try clear c26
         try clear hx349_0
         try clear p2
         try clear p349
         try clear q349
         obtain ⟨kq, x75_22, rfl, HA, HJ22, HO_11, HB⟩ := hcut
         cases kq with
         | zero => exact absurd HA.out (by simp [caulkerlaw04_DiffPuts.j2])
         | succ kj22 =>
          have H := HA.out
          clear HA
          simp only [caulkerlaw04_DiffPuts.j2] at H
          by_cases c30 : x75_22 = true
          ·subst c30
           have H1 : (none) = some r := by rw [if_pos rfl] at H; exact H
           clear H
           have H := H1
           clear H1
           exact absurd H (by simp)
          ·replace c30 := Bool.eq_false_iff.mpr c30
           subst c30
           have H1 : (caulkerlaw04_DiffPuts.l1 kj22 t350 (t350.length : Int) 0) = some r := by rw [if_neg (show ¬ (false = true) by decide)] at H; exact H
           clear H
           have H := H1
           clear H1
           have H' := Aside0.mk H
           clear H
           obtain ⟨Ao31, co31, eo31⟩ := Kd.R_slice HO_11.out
           subst eo31
           go_wp2
           repeat (go_quiet (fail); try go_wp2)
           go_loopg [78] kj22 (fun kq v78 w' => ∃ (x78_4 : Int), v78 = .int .i64 x78_4 ∧ Aside0 (caulkerlaw04_DiffPuts.l1 kq t350 (t350.length : Int) x78_4 = some r) ∧ Aside0 (kq ≤ kj22) ∧ Aside0 (Kd.R k41 41 w' w.heap.size (fun _ => True) (.slice Ao31 t350.length co31) t350) ∧ Aside0 (Below w.heap.size w w'))
           case atStart => exact ⟨(0), (by first | rfl | (simp; done) | (simp [*]; done)), H', ⟨Nat.le_refl _⟩, ⟨pxr HO_11⟩, ⟨pxb HB⟩⟩
           case round =>
            clear H'
            try clear c1
            try clear c2
            try clear p2
            try clear c3
            try clear p3
            try clear q3
            try clear hx3
            try clear c5
            try clear p6
            try clear c7
            try clear c8
            try clear c8b0
            try clear c8b1
            try clear c9
            try clear c9b0
            try clear c9b1
            try clear c10
            try clear c11
            try clear c11b0
            try clear c12
            try clear c12b0
            try clear c13
            try clear c13b0
            try clear c16
            try clear c16b0
            try clear c16b1
            try clear c17
            try clear c17b0
            try clear c17b1
            try clear c18
            try clear c18b0
            try clear c18b1
            try clear c18b2
            try clear c19
            try clear c19b0
            try clear c20
            try clear c20b0
            try clear c21
            try clear c21b0
            try clear c21b1
            try clear c21b2
            try clear c25
            try clear c25b0
            try clear c25b1
            try clear c26
            try clear c30
            try clear hx349_0
            try clear p2
            try clear p3
            try clear p349
            try clear p6
            try clear q3
            try clear q349
            obtain ⟨x78_4, rfl, HA, HK4, HO_76, HB⟩ := hrel
            cases gk with
            | zero => exact absurd HA.out (by simp [caulkerlaw04_DiffPuts.l1])
            | succ k4 =>
             have H := HA.out
             clear HA
             simp only [caulkerlaw04_DiffPuts.l1] at H
             by_cases c32 : x78_4 < (t350.length : Int)
             ·rw [if_pos c32] at H
              have c32b0 : decide (x78_4 < (t350.length : Int)) = true := decide_eq_true c32
              clear c32
              by_cases c33 : 0 ≤ x78_4
              ·rw [if_pos c33] at H
               have c33b0 : decide (0 ≤ x78_4) = true := decide_eq_true c33
               clear c33
               by_cases c34 : x78_4 < (t350.length : Int)
               ·rw [if_pos c34] at H
                have c34b0 : decide (x78_4 < (t350.length : Int)) = true := decide_eq_true c34
                clear c34
                by_cases c35 : ((rd_T41 t350 x78_4).f0.f0) = ((rd_T41 t350 x78_4).f0.f1)
                ·rw [if_pos c35] at H
                 have c35b0 : (((rd_T41 t350 x78_4).f0.f0) == ((rd_T41 t350 x78_4).f0.f1)) = true := beq_iff_eq.mpr c35
                 have c35b1 : (((rd_T41 t350 x78_4).f0.f0) != ((rd_T41 t350 x78_4).f0.f1)) = false := bne_eq_false_iff_eq.mpr c35
                 clear c35
                 have H' := Aside0.mk H
                 clear H
                 have p356 : 0 ≤ (x78_4 : Int) := of_decide_eq_true (by first | (with_reducible assumption) | assumption)
                 have q356 : x78_4 < (t350.length : Int) := of_decide_eq_true (by first | (with_reducible assumption) | assumption)
                 obtain ⟨ad356, e356, hx356_0, hx356_1, hx356_2⟩ := at_T41 (Kd.R_reads' HO_76.out).2.2 x78_4 p356 q356
                 cases e356
                 replace p356 := eq_true p356
                 replace q356 := eq_true q356
                 go_wp2_with (first | ((with_reducible refine gate_dst (N := 15) rfl ?_); refine box_event ?hg (N := 15) ?hd (cs := #[.int .i64 0, .int .i64 0, .string (⟨#[]⟩ : ByteArray)]) (t := 41) ?hr ?_; (case hd => rfl); (case hg => rfl); (case hr => first | (go_simp; done) | (go_simp; rfl)); intro gb357 hg w36 hbox hb; have n0_ := Aside0.mk (Kd.R_below (Kd.R_elderB (pxr HO_76) gb357 (Nat.le_of_eq hg.symm)) hb); have n1_ := pxs HB hb; have n2_ := Aside0.mk (hbox); have n3_ := Aside0.mk ((by rw [hg]; exact (below_size (pxb HB)) : w.heap.size ≤ gb357)); have n4_ := Aside0.mk ((by rw [hg]; exact (below_size (pxb HB)) : w.heap.size ≤ gb357)); clear HO_76; clear HB; have HO_76 := n0_; have HB := n1_; have BK357 := n2_; have GW357 := n3_; have GE357 := n4_; clear n0_ n1_ n2_ n3_ n4_; clear hb hbox hg; have hcz37_0 : w36.cell? ⟨gb357, 0, none⟩ = some (.int .i64 0) := (blk_cell BK357.out 0).trans rfl; have hcz37_1 : w36.cell? ⟨gb357, 1, none⟩ = some (.int .i64 0) := (blk_cell BK357.out 1).trans rfl; have hcz37_2 : w36.cell? ⟨gb357, 2, none⟩ = some (.string (⟨#[]⟩ : ByteArray)) := (blk_cell BK357.out 2).trans rfl; have hfz37_0 := blk_frozen BK357.out 0; have hfz37_1 := blk_frozen BK357.out 1; have hfz37_2 := blk_frozen BK357.out 2))
                 repeat (go_quiet (first | ((with_reducible refine gate_dst (N := 15) rfl ?_); refine box_event ?hg (N := 15) ?hd (cs := #[.int .i64 0, .int .i64 0, .string (⟨#[]⟩ : ByteArray)]) (t := 41) ?hr ?_; (case hd => rfl); (case hg => rfl); (case hr => first | (go_simp; done) | (go_simp; rfl)); intro gb357 hg w36 hbox hb; have n0_ := Aside0.mk (Kd.R_below (Kd.R_elderB (pxr HO_76) gb357 (Nat.le_of_eq hg.symm)) hb); have n1_ := pxs HB hb; have n2_ := Aside0.mk (hbox); have n3_ := Aside0.mk ((by rw [hg]; exact (below_size (pxb HB)) : w.heap.size ≤ gb357)); have n4_ := Aside0.mk ((by rw [hg]; exact (below_size (pxb HB)) : w.heap.size ≤ gb357)); clear HO_76; clear HB; have HO_76 := n0_; have HB := n1_; have BK357 := n2_; have GW357 := n3_; have GE357 := n4_; clear n0_ n1_ n2_ n3_ n4_; clear hb hbox hg; have hcz37_0 : w36.cell? ⟨gb357, 0, none⟩ = some (.int .i64 0) := (blk_cell BK357.out 0).trans rfl; have hcz37_1 : w36.cell? ⟨gb357, 1, none⟩ = some (.int .i64 0) := (blk_cell BK357.out 1).trans rfl; have hcz37_2 : w36.cell? ⟨gb357, 2, none⟩ = some (.string (⟨#[]⟩ : ByteArray)) := (blk_cell BK357.out 2).trans rfl; have hfz37_0 := blk_frozen BK357.out 0; have hfz37_1 := blk_frozen BK357.out 1; have hfz37_2 := blk_frozen BK357.out 2)); try go_wp2_with (first | ((with_reducible refine gate_dst (N := 15) rfl ?_); refine box_event ?hg (N := 15) ?hd (cs := #[.int .i64 0, .int .i64 0, .string (⟨#[]⟩ : ByteArray)]) (t := 41) ?hr ?_; (case hd => rfl); (case hg => rfl); (case hr => first | (go_simp; done) | (go_simp; rfl)); intro gb357 hg w36 hbox hb; have n0_ := Aside0.mk (Kd.R_below (Kd.R_elderB (pxr HO_76) gb357 (Nat.le_of_eq hg.symm)) hb); have n1_ := pxs HB hb; have n2_ := Aside0.mk (hbox); have n3_ := Aside0.mk ((by rw [hg]; exact (below_size (pxb HB)) : w.heap.size ≤ gb357)); have n4_ := Aside0.mk ((by rw [hg]; exact (below_size (pxb HB)) : w.heap.size ≤ gb357)); clear HO_76; clear HB; have HO_76 := n0_; have HB := n1_; have BK357 := n2_; have GW357 := n3_; have GE357 := n4_; clear n0_ n1_ n2_ n3_ n4_; clear hb hbox hg; have hcz37_0 : w36.cell? ⟨gb357, 0, none⟩ = some (.int .i64 0) := (blk_cell BK357.out 0).trans rfl; have hcz37_1 : w36.cell? ⟨gb357, 1, none⟩ = some (.int .i64 0) := (blk_cell BK357.out 1).trans rfl; have hcz37_2 : w36.cell? ⟨gb357, 2, none⟩ = some (.string (⟨#[]⟩ : ByteArray)) := (blk_cell BK357.out 2).trans rfl; have hfz37_0 := blk_frozen BK357.out 0; have hfz37_1 := blk_frozen BK357.out 1; have hfz37_2 := blk_frozen BK357.out 2)))
                 go_roundg k4
                 case measure => have := HJ5.out; have := HK2.out; have := HJ22.out; have := HK4.out; omega
                 case rel => exact ⟨(wrap64 (x78_4 + 1)), (by first | rfl | (simp; done) | (simp [*]; done)), H', ⟨by have := HJ5.out; have := HK2.out; have := HJ22.out; have := HK4.out; omega⟩, ⟨by (with_reducible repeat (first | apply Kd.R_alloc | apply Kd.R_drewN | apply Kd.R_drew)); exact Kd.R_mono (Kd.R_far (p := ⟨gb357, 2, none⟩) (Kd.R_far (p := ⟨gb357, 1, none⟩) (Kd.R_far (p := ⟨gb357, 0, none⟩) (Kd.R_mono HO_76.out (fun k_ hk => (⟨hk, hk.2⟩ : _ ∧ k_ ≠ gb357))) (fun _ hk => hk.2) (.int .i64 ((rd_T41 t350 x78_4).f0.f0))) (fun _ hk => hk.2) (.int .i64 ((rd_T41 t350 x78_4).f0.f1))) (fun _ hk => hk.2) (.string ((rd_T41 t350 x78_4).f1))) (fun _ hk => trivial)⟩, ⟨pxb HB⟩⟩
                ·rw [if_neg c35] at H
                 exact absurd H (by simp)
               ·rw [if_neg c34] at H
                exact absurd H (by simp)
              ·rw [if_neg c33] at H
               exact absurd H (by simp)
             ·rw [if_neg c32] at H
              have c32b0 : decide (x78_4 < (t350.length : Int)) = false := decide_eq_false c32
              clear c32
              obtain rfl := Option.some.inj H
              go_wp2
              repeat (go_quiet (fail); try go_wp2)
              go_ret
              exact ⟨by first | rfl | (simp [errW_none, errW_some] <;> rfl) | (simp [*, errW_none, errW_some] <;> rfl), pxb HB⟩
 ·replace c5 := Bool.eq_false_iff.mpr c5
  subst c5
  have H1 : (none) = some r := by rw [if_neg (show ¬ (false = true) by decide)] at H; exact H
  clear H
  have H := H1
  clear H1
  exact absurd H (by simp)

/-- THE ONE PURE STATEMENT of caulkerlaw04_DiffPuts. -/
def caulkerlaw04_DiffPuts.Pure : Prop := ∀ (a0 : ByteArray) (l1 : List Int) (a2 : ByteArray), a0.size ≤ 140737488351232 → l1.length ≤ 9223372036854775807 → l1.length * 8 ≤ 140737488351232 → (∀ y ∈ l1, (Lit.int .i64 y).wf = true) → a2.size ≤ 140737488351232 → ∃ k, caulkerlaw04_DiffPuts.f k a0 l1 a2 = some true

end Go.Proofs.Ytoljmjhmieaggaa.X
