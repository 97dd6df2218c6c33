/- What the program's functions answer, as Lean functions, and that each call does just that; no condition. Written by a program (px.py) out of the translation. -/
import Derived.Test.YtoljmjhmieaggaaX0
import Derived.Test.YtoljmjhmieaggaaX18
namespace Go.Proofs.Ytoljmjhmieaggaa.X
open Go.RowKit Go.Proofs.YtoljmjhmieaggaaW.PrintWords Go.Proofs.YtoljmjhmieaggaaW.PrintLast Go.Proofs.YtoljmjhmieaggaaW.PrintMore
attribute [local go_sem] max2_int min2_int max_two min_two max_three min_three max_four min_four   -- for this text's walks alone
set_option linter.unusedVariables false
set_option linter.unusedSimpArgs false

/-! ### caulkerref03_Apply: function 13 -/
mutual
def caulkerref03_Apply.l0 : Nat → ByteArray → List (S41) → Int → Int → Option (ByteArray × Int)
 | 0, _, _, _, _ => none
 | k + 1, x0, x1, x7, x8 => if x8 < (x1.length : Int) then (if 0 ≤ x8 then (caulkerref03_Apply.l0 k x0 x1 (wrap64 (x7 + (wrap64 ((((rd_T41 x1 x8).f1).size : Int) - (wrap64 (((rd_T41 x1 x8).f0.f1) - ((rd_T41 x1 x8).f0.f0))))))) (wrap64 (x8 + 1))) else (none)) else (if x7 > 65536 then (some ((⟨#[]⟩ : ByteArray), 2)) else (caulkerref03_Apply.l1 k x0 x1 (wrap64 ((x1.length : Int) - 1))))
def caulkerref03_Apply.l1 : Nat → ByteArray → List (S41) → Int → Option (ByteArray × Int)
 | 0, _, _, _ => none
 | k + 1, x0, x1, x9 => if x9 ≥ 0 then (if 0 ≤ x9 then (if x9 < (x1.length : Int) then (if 0 ≤ ((rd_T41 x1 x9).f0.f0) then (if ((rd_T41 x1 x9).f0.f0) ≤ (x0.size : Int) then (if (x0.extract 0 (((rd_T41 x1 x9).f0.f0) : Int).toNat).size + ((rd_T41 x1 x9).f1).size ≤ 9223372036854775807 then (if 0 ≤ ((rd_T41 x1 x9).f0.f1) then (if ((rd_T41 x1 x9).f0.f1) ≤ (x0.size : Int) then (if ((x0.extract 0 (((rd_T41 x1 x9).f0.f0) : Int).toNat) ++ ((rd_T41 x1 x9).f1)).size + (x0.extract (((rd_T41 x1 x9).f0.f1) : Int).toNat x0.size).size ≤ 9223372036854775807 then (caulkerref03_Apply.l1 k (((x0.extract 0 (((rd_T41 x1 x9).f0.f0) : Int).toNat) ++ ((rd_T41 x1 x9).f1)) ++ (x0.extract (((rd_T41 x1 x9).f0.f1) : Int).toNat x0.size)) x1 (wrap64 (x9 - 1))) else (none)) else (none)) else (none)) else (none)) else (none)) else (none)) else (none)) else (none)) else (some (x0, 0))
end
def caulkerref03_Apply.f (k : Nat) (a0 : ByteArray) (l1 : List (S41)) : Option (ByteArray × Int) := if (a0.size : Int) > 65536 then (some ((⟨#[]⟩ : ByteArray), 2)) else ((caulkerref03_Check.f k (a0.size : Int) l1).bind fun t271 => (if t271 = 0 then (caulkerref03_Apply.l0 k a0 l1 (a0.size : Int) 0) else (some ((⟨#[]⟩ : ByteArray), t271))))
theorem caulkerref03_Apply.mono_l : ∀ k, (∀ y0 y1 y2 y3, LeO (caulkerref03_Apply.l0 k y0 y1 y2 y3) (caulkerref03_Apply.l0 (k + 1) y0 y1 y2 y3)) ∧ (∀ y0 y1 y2, LeO (caulkerref03_Apply.l1 k y0 y1 y2) (caulkerref03_Apply.l1 (k + 1) y0 y1 y2))
 | 0 => ⟨fun _ _ _ _ r h => by simp [caulkerref03_Apply.l0] at h, fun _ _ _ r h => by simp [caulkerref03_Apply.l1] at h⟩
 | k + 1 => by
  obtain ⟨ih0, ih1⟩ := caulkerref03_Apply.mono_l k
  refine ⟨?_, ?_⟩
  ·intro y0 y1 y2 y3
   unfold caulkerref03_Apply.l0
   repeat' first
   | (with_reducible exact ih0 _ _ _ _)
   | (with_reducible exact ih1 _ _ _)
   | (with_reducible exact caulkerref03_Check.mono _ _ _)
   | (with_reducible exact LeO.refl _)
   | (with_reducible exact LeO.none _)
   | (with_reducible refine LeO.ite ?_ ?_)
   | (with_reducible refine LeO.bind ?_ (fun _ => ?_))
   | exact ih0 _ _ _ _
   | exact ih1 _ _ _
   | exact caulkerref03_Check.mono _ _ _
   | exact LeO.none _
   | refine LeO.ite ?_ ?_
   | refine LeO.bind ?_ (fun _ => ?_)
  ·intro y0 y1 y2
   unfold caulkerref03_Apply.l1
   repeat' first
   | (with_reducible exact ih0 _ _ _ _)
   | (with_reducible exact ih1 _ _ _)
   | (with_reducible exact caulkerref03_Check.mono _ _ _)
   | (with_reducible exact LeO.refl _)
   | (with_reducible exact LeO.none _)
   | (with_reducible refine LeO.ite ?_ ?_)
   | (with_reducible refine LeO.bind ?_ (fun _ => ?_))
   | exact ih0 _ _ _ _
   | exact ih1 _ _ _
   | exact caulkerref03_Check.mono _ _ _
   | exact LeO.none _
   | refine LeO.ite ?_ ?_
   | refine LeO.bind ?_ (fun _ => ?_)
theorem caulkerref03_Apply.mono : ∀ a0 a1 k, LeO (caulkerref03_Apply.f k a0 a1) (caulkerref03_Apply.f (k + 1) a0 a1) := by
 intro a0 a1 k
 obtain ⟨ih0, ih1⟩ := caulkerref03_Apply.mono_l k
 unfold caulkerref03_Apply.f
 repeat' first
   | (with_reducible exact ih0 _ _ _ _)
   | (with_reducible exact ih1 _ _ _)
   | (with_reducible exact caulkerref03_Check.mono _ _ _)
   | (with_reducible exact LeO.refl _)
   | (with_reducible exact LeO.none _)
   | (with_reducible refine LeO.ite ?_ ?_)
   | (with_reducible refine LeO.bind ?_ (fun _ => ?_))
   | exact ih0 _ _ _ _
   | exact ih1 _ _ _
   | exact caulkerref03_Check.mono _ _ _
   | exact LeO.none _
   | refine LeO.ite ?_ ?_
   | refine LeO.bind ?_ (fun _ => ?_)
set_option maxHeartbeats 8000000 in
set_option maxRecDepth 100000 in
theorem caulkerref03_Apply.calls (k : Nat) (a0 : ByteArray) (A1 : Option Addr) (c1 : Nat) (l1 : List (S41)) (r1 : ByteArray) (r2 : Int) (w : World) (hr1 : Kd.C k41 w A1 l1.length l1) (hc1 : l1.length ≤ c1) (h : caulkerref03_Apply.f k a0 l1 = some (r1, r2)) :
  Calls Try.prog 13 #[.string a0, .slice A1 l1.length c1] w fun e w' => e = .returned (.tuple #[.string r1, .int .i64 r2]) ∧ Below w.heap.size w w' := by
 have HR1 := Aside0.mk hr1
 have HC1 := Aside0.mk hc1
 clear hr1 hc1
 have HB := Aside0.mk (Below.refl w.heap.size w)
 have H : (if (a0.size : Int) > 65536 then (some ((⟨#[]⟩ : ByteArray), 2)) else ((caulkerref03_Check.f k (a0.size : Int) l1).bind fun t271 => (if t271 = 0 then (caulkerref03_Apply.l0 k a0 l1 (a0.size : Int) 0) else (some ((⟨#[]⟩ : ByteArray), t271))))) = some (r1, r2) := h
 clear h
 by_cases c3 : (a0.size : Int) > 65536
 ·rw [if_pos c3] at H
  have c3b0 : decide (65536 < (a0.size : Int)) = true := decide_eq_true c3
  have c3b1 : decide (65536 < a0.size) = true := decide_eq_true (by omega)
  clear c3
  simp only [Option.some.injEq, Prod.mk.injEq] at H
  obtain ⟨rfl, rfl⟩ := H
  go_enter Try.func13, Try.ntmps13
  go_wp2
  repeat (go_quiet (fail); try go_wp2)
  go_ret2
  exact ⟨by first | rfl | (simp [errW_none, errW_some] <;> rfl) | (simp [*, errW_none, errW_some] <;> rfl), pxb HB⟩
 ·rw [if_neg c3] at H
  have c3b0 : decide (65536 < (a0.size : Int)) = false := decide_eq_false c3
  have c3b1 : decide (65536 < a0.size) = false := decide_eq_false (by omega)
  clear c3
  replace H := Option.bind_eq_some_iff.mp H
  obtain ⟨t271, A40, H⟩ := H
  replace H : (if t271 = 0 then (caulkerref03_Apply.l0 k a0 l1 (a0.size : Int) 0) else (some ((⟨#[]⟩ : ByteArray), t271))) = some (r1, r2) := H
  have A4 := Aside0.mk A40
  clear A40
  by_cases c5 : t271 = 0
  ·rw [if_pos c5] at H
   have c5b0 : (t271 == 0) = true := beq_iff_eq.mpr c5
   have c5b1 : (t271 != 0) = false := bne_eq_false_iff_eq.mpr c5
   clear c5
   have H' := Aside0.mk H
   clear H
   go_enter Try.func13, Try.ntmps13
   go_wp2_with (first | (go_at_call 18; (with_reducible refine (caulkerref03_Check.calls k (a0.size : Int) _ _ l1 t271 _ ?side1 ?side2 A4.out).mono ?_); (case side1 => repeat (first | exact HR1.out | (with_reducible refine Kd.C_alloc ?_ _) | (with_reducible refine Kd.C_drewN ?_ _) | (with_reducible refine Kd.C_drew ?_))); (case side2 => exact HC1.out); rintro e w6 ⟨rfl, hb⟩; have n0_ := pxs HB hb; clear HB; have HB := n0_; clear n0_; (try clear hb); (try clear hb2); (try clear hk); (try clear hi)))
   repeat (go_quiet (first | (go_at_call 18; (with_reducible refine (caulkerref03_Check.calls k (a0.size : Int) _ _ l1 t271 _ ?side1 ?side2 A4.out).mono ?_); (case side1 => repeat (first | exact HR1.out | (with_reducible refine Kd.C_alloc ?_ _) | (with_reducible refine Kd.C_drewN ?_ _) | (with_reducible refine Kd.C_drew ?_))); (case side2 => exact HC1.out); rintro e w6 ⟨rfl, hb⟩; have n0_ := pxs HB hb; clear HB; have HB := n0_; clear n0_; (try clear hb); (try clear hb2); (try clear hk); (try clear hi))); try go_wp2_with (first | (go_at_call 18; (with_reducible refine (caulkerref03_Check.calls k (a0.size : Int) _ _ l1 t271 _ ?side1 ?side2 A4.out).mono ?_); (case side1 => repeat (first | exact HR1.out | (with_reducible refine Kd.C_alloc ?_ _) | (with_reducible refine Kd.C_drewN ?_ _) | (with_reducible refine Kd.C_drew ?_))); (case side2 => exact HC1.out); rintro e w6 ⟨rfl, hb⟩; have n0_ := pxs HB hb; clear HB; have HB := n0_; clear n0_; (try clear hb); (try clear hb2); (try clear hk); (try clear hi))))
   go_loopg [7, 8] k (fun kq v7 v8 w' => ∃ (x7_1 : Int) (x8_1 : Int), v7 = .int .i64 x7_1 ∧ v8 = .int .i64 x8_1 ∧ Aside0 (caulkerref03_Apply.l0 kq a0 l1 x7_1 x8_1 = some (r1, r2)) ∧ Aside0 (kq ≤ k) ∧ Aside0 (Below w.heap.size w w'))
   case atStart => exact ⟨((a0.size : Int)), (0), (by first | rfl | (simp; done) | (simp [*]; done)), (by first | rfl | (simp; done) | (simp [*]; done)), H', ⟨Nat.le_refl _⟩, ⟨pxb HB⟩⟩
   case round =>
    clear H'
    try clear c1
    try clear p2
    try clear c3
    try clear c3b0
    try clear c3b1
    try clear c5
    try clear c5b0
    try clear c5b1
    obtain ⟨x7_1, x8_1, rfl, rfl, HA, HK1, HB⟩ := hrel
    cases gk with
    | zero => exact absurd HA.out (by simp [caulkerref03_Apply.l0])
    | succ k1 =>
     have H := HA.out
     clear HA
     simp only [caulkerref03_Apply.l0] at H
     by_cases c7 : x8_1 < (l1.length : Int)
     ·rw [if_pos c7] at H
      have c7b0 : decide (x8_1 < (l1.length : Int)) = true := decide_eq_true c7
      clear c7
      by_cases c8 : 0 ≤ x8_1
      ·rw [if_pos c8] at H
       have c8b0 : decide (0 ≤ x8_1) = true := decide_eq_true c8
       clear c8
       have H' := Aside0.mk H
       clear H
       have p272 : 0 ≤ (x8_1 : Int) := of_decide_eq_true (by first | (with_reducible assumption) | assumption)
       have q272 : x8_1 < (l1.length : Int) := of_decide_eq_true (by first | (with_reducible assumption) | assumption)
       obtain ⟨ad272, e272, hx272_0, hx272_1, hx272_2⟩ := at_T41 HR1.out x8_1 p272 q272
       cases e272
       replace hx272_0 := (HB.out.cell (World.block_lt_of_cell? w _ hx272_0)).trans hx272_0
       replace hx272_1 := (HB.out.cell (World.block_lt_of_cell? w _ hx272_1)).trans hx272_1
       replace hx272_2 := (HB.out.cell (World.block_lt_of_cell? w _ hx272_2)).trans hx272_2
       replace p272 := eq_true p272
       replace q272 := eq_true q272
       have p273 : 0 ≤ (x8_1 : Int) := of_decide_eq_true (by first | (with_reducible assumption) | assumption)
       have q273 : x8_1 < (l1.length : Int) := of_decide_eq_true (by first | (with_reducible assumption) | assumption)
       obtain ⟨ad273, e273, hx273_0, hx273_1, hx273_2⟩ := at_T41 HR1.out x8_1 p273 q273
       obtain rfl : ad272 = ad273 := (by injection e273)
       replace hx273_0 := (HB.out.cell (World.block_lt_of_cell? w _ hx273_0)).trans hx273_0
       replace hx273_1 := (HB.out.cell (World.block_lt_of_cell? w _ hx273_1)).trans hx273_1
       replace hx273_2 := (HB.out.cell (World.block_lt_of_cell? w _ hx273_2)).trans hx273_2
       replace p273 := eq_true p273
       replace q273 := eq_true q273
       have p274 : 0 ≤ (x8_1 : Int) := of_decide_eq_true (by first | (with_reducible assumption) | assumption)
       have q274 : x8_1 < (l1.length : Int) := of_decide_eq_true (by first | (with_reducible assumption) | assumption)
       obtain ⟨ad274, e274, hx274_0, hx274_1, hx274_2⟩ := at_T41 HR1.out x8_1 p274 q274
       obtain rfl : ad272 = ad274 := (by injection e274)
       replace hx274_0 := (HB.out.cell (World.block_lt_of_cell? w _ hx274_0)).trans hx274_0
       replace hx274_1 := (HB.out.cell (World.block_lt_of_cell? w _ hx274_1)).trans hx274_1
       replace hx274_2 := (HB.out.cell (World.block_lt_of_cell? w _ hx274_2)).trans hx274_2
       replace p274 := eq_true p274
       replace q274 := eq_true q274
       go_wp2
       repeat (go_quiet (fail); try go_wp2)
       go_roundg k1
       case measure => have := HK1.out; omega
       case rel => exact ⟨(wrap64 (x7_1 + (wrap64 ((((rd_T41 l1 x8_1).f1).size : Int) - (wrap64 (((rd_T41 l1 x8_1).f0.f1) - ((rd_T41 l1 x8_1).f0.f0))))))), (wrap64 (x8_1 + 1)), (by first | rfl | (simp; done) | (simp [*]; done)), (by first | rfl | (simp; done) | (simp [*]; done)), H', ⟨by have := HK1.out; omega⟩, ⟨pxb HB⟩⟩
      ·rw [if_neg c8] at H
       exact absurd H (by simp)
     ·rw [if_neg c7] at H
      have c7b0 : decide (x8_1 < (l1.length : Int)) = false := decide_eq_false c7
      clear c7
      by_cases c9 : x7_1 > 65536
      ·rw [if_pos c9] at H
       have c9b0 : decide (65536 < x7_1) = true := decide_eq_true c9
       clear c9
       simp only [Option.some.injEq, Prod.mk.injEq] at H
       obtain ⟨rfl, rfl⟩ := H
       go_wp2
       repeat (go_quiet (fail); try go_wp2)
       go_ret2
       exact ⟨by first | rfl | (simp [errW_none, errW_some] <;> rfl) | (simp [*, errW_none, errW_some] <;> rfl), pxb HB⟩
      ·rw [if_neg c9] at H
       have c9b0 : decide (65536 < x7_1) = false := decide_eq_false c9
       clear c9
       have H' := Aside0.mk H
       clear H
       go_wp2
       repeat (go_quiet (fail); try go_wp2)
       go_loopg [0, 9] k1 (fun kq v0 v9 w' => ∃ (x0_2 : ByteArray) (x9_2 : Int), v0 = .string x0_2 ∧ v9 = .int .i64 x9_2 ∧ Aside0 (caulkerref03_Apply.l1 kq x0_2 l1 x9_2 = some (r1, r2)) ∧ Aside0 (kq ≤ k1) ∧ Aside0 (Below w.heap.size w w'))
       case atStart => exact ⟨(a0), (wrap64 ((l1.length : Int) - 1)), (by first | rfl | (simp; done) | (simp [*]; done)), (by first | rfl | (simp; done) | (simp [*]; done)), H', ⟨Nat.le_refl _⟩, ⟨pxb HB⟩⟩
       case round =>
        clear H'
        try clear c1
        try clear p2
        try clear q2
        try clear hx2
        try clear c3
        try clear c3b0
        try clear c3b1
        try clear c5
        try clear c5b0
        try clear c5b1
        try clear p6
        try clear c7
        try clear c7b0
        try clear c8
        try clear c8b0
        try clear c9
        try clear c9b0
        try clear hx272_0
        try clear hx272_1
        try clear hx272_2
        try clear hx273_0
        try clear hx273_1
        try clear hx273_2
        try clear hx274_0
        try clear hx274_1
        try clear hx274_2
        try clear p2
        try clear p272
        try clear p273
        try clear p274
        try clear q272
        try clear q273
        try clear q274
        obtain ⟨x0_2, x9_2, rfl, rfl, HA, HK2, HB⟩ := hrel
        cases gk with
        | zero => exact absurd HA.out (by simp [caulkerref03_Apply.l1])
        | succ k2 =>
         have H := HA.out
         clear HA
         simp only [caulkerref03_Apply.l1] at H
         by_cases c10 : x9_2 ≥ 0
         ·rw [if_pos c10] at H
          have c10b0 : decide (0 ≤ x9_2) = true := decide_eq_true c10
          clear c10
          by_cases c11 : 0 ≤ x9_2
          ·rw [if_pos c11] at H
           have c11b0 : decide (0 ≤ x9_2) = true := decide_eq_true c11
           clear c11
           by_cases c12 : x9_2 < (l1.length : Int)
           ·rw [if_pos c12] at H
            have c12b0 : decide (x9_2 < (l1.length : Int)) = true := decide_eq_true c12
            clear c12
            by_cases c13 : 0 ≤ ((rd_T41 l1 x9_2).f0.f0)
            ·rw [if_pos c13] at H
             have c13b0 := eq_true c13
             have c13b1 : decide (0 ≤ ((rd_T41 l1 x9_2).f0.f0)) = true := decide_eq_true c13
             clear c13
             by_cases c14 : ((rd_T41 l1 x9_2).f0.f0) ≤ (x0_2.size : Int)
             ·rw [if_pos c14] at H
              have c14b0 := eq_true c14
              have c14b1 : decide (((rd_T41 l1 x9_2).f0.f0) ≤ (x0_2.size : Int)) = true := decide_eq_true c14
              clear c14
              by_cases c15 : (x0_2.extract 0 (((rd_T41 l1 x9_2).f0.f0) : Int).toNat).size + ((rd_T41 l1 x9_2).f1).size ≤ 9223372036854775807
              ·rw [if_pos c15] at H
               have c15b0 := eq_true c15
               have c15b1 : decide ((x0_2.extract 0 (((rd_T41 l1 x9_2).f0.f0) : Int).toNat).size + ((rd_T41 l1 x9_2).f1).size ≤ 9223372036854775807) = true := decide_eq_true c15
               try have c15b2 : (9223372036854775807 < (x0_2.extract 0 (((rd_T41 l1 x9_2).f0.f0) : Int).toNat).size + ((rd_T41 l1 x9_2).f1).size) = False := eq_false (Nat.not_lt.2 c15)
               by_cases c16 : 0 ≤ ((rd_T41 l1 x9_2).f0.f1)
               ·rw [if_pos c16] at H
                have c16b0 := eq_true c16
                have c16b1 : decide (0 ≤ ((rd_T41 l1 x9_2).f0.f1)) = true := decide_eq_true c16
                clear c16
                by_cases c17 : ((rd_T41 l1 x9_2).f0.f1) ≤ (x0_2.size : Int)
                ·rw [if_pos c17] at H
                 have c17b0 := eq_true c17
                 have c17b1 : decide (((rd_T41 l1 x9_2).f0.f1) ≤ (x0_2.size : Int)) = true := decide_eq_true c17
                 clear c17
                 by_cases c18 : ((x0_2.extract 0 (((rd_T41 l1 x9_2).f0.f0) : Int).toNat) ++ ((rd_T41 l1 x9_2).f1)).size + (x0_2.extract (((rd_T41 l1 x9_2).f0.f1) : Int).toNat x0_2.size).size ≤ 9223372036854775807
                 ·rw [if_pos c18] at H
                  have c18b0 := eq_true c18
                  have c18b1 : decide (((x0_2.extract 0 (((rd_T41 l1 x9_2).f0.f0) : Int).toNat) ++ ((rd_T41 l1 x9_2).f1)).size + (x0_2.extract (((rd_T41 l1 x9_2).f0.f1) : Int).toNat x0_2.size).size ≤ 9223372036854775807) = true := decide_eq_true c18
                  try have c18b2 : (9223372036854775807 < ((x0_2.extract 0 (((rd_T41 l1 x9_2).f0.f0) : Int).toNat) ++ ((rd_T41 l1 x9_2).f1)).size + (x0_2.extract (((rd_T41 l1 x9_2).f0.f1) : Int).toNat x0_2.size).size) = False := eq_false (Nat.not_lt.2 c18)
                  have H' := Aside0.mk H
                  clear H
                  have p275 : 0 ≤ (x9_2 : Int) := of_decide_eq_true (by first | (with_reducible assumption) | assumption)
                  have q275 : x9_2 < (l1.length : Int) := of_decide_eq_true (by first | (with_reducible assumption) | assumption)
                  obtain ⟨ad275, e275, hx275_0, hx275_1, hx275_2⟩ := at_T41 HR1.out x9_2 p275 q275
                  cases e275
                  replace hx275_0 := (HB.out.cell (World.block_lt_of_cell? w _ hx275_0)).trans hx275_0
                  replace hx275_1 := (HB.out.cell (World.block_lt_of_cell? w _ hx275_1)).trans hx275_1
                  replace hx275_2 := (HB.out.cell (World.block_lt_of_cell? w _ hx275_2)).trans hx275_2
                  replace p275 := eq_true p275
                  replace q275 := eq_true q275
                  have p276 : 0 ≤ (x9_2 : Int) := of_decide_eq_true (by first | (with_reducible assumption) | assumption)
                  have q276 : x9_2 < (l1.length : Int) := of_decide_eq_true (by first | (with_reducible assumption) | assumption)
                  obtain ⟨ad276, e276, hx276_0, hx276_1, hx276_2⟩ := at_T41 HR1.out x9_2 p276 q276
                  obtain rfl : ad275 = ad276 := (by injection e276)
                  replace hx276_0 := (HB.out.cell (World.block_lt_of_cell? w _ hx276_0)).trans hx276_0
                  replace hx276_1 := (HB.out.cell (World.block_lt_of_cell? w _ hx276_1)).trans hx276_1
                  replace hx276_2 := (HB.out.cell (World.block_lt_of_cell? w _ hx276_2)).trans hx276_2
                  replace p276 := eq_true p276
                  replace q276 := eq_true q276
                  have p277 : 0 ≤ (x9_2 : Int) := of_decide_eq_true (by first | (with_reducible assumption) | assumption)
                  have q277 : x9_2 < (l1.length : Int) := of_decide_eq_true (by first | (with_reducible assumption) | assumption)
                  obtain ⟨ad277, e277, hx277_0, hx277_1, hx277_2⟩ := at_T41 HR1.out x9_2 p277 q277
                  obtain rfl : ad275 = ad277 := (by injection e277)
                  replace hx277_0 := (HB.out.cell (World.block_lt_of_cell? w _ hx277_0)).trans hx277_0
                  replace hx277_1 := (HB.out.cell (World.block_lt_of_cell? w _ hx277_1)).trans hx277_1
                  replace hx277_2 := (HB.out.cell (World.block_lt_of_cell? w _ hx277_2)).trans hx277_2
                  replace p277 := eq_true p277
                  replace q277 := eq_true q277
                  go_wp2
                  repeat (go_quiet (fail); try go_wp2)
                  go_roundg k2
                  case measure => have := HK1.out; have := HK2.out; omega
                  case rel => exact ⟨(((x0_2.extract 0 (((rd_T41 l1 x9_2).f0.f0) : Int).toNat) ++ ((rd_T41 l1 x9_2).f1)) ++ (x0_2.extract (((rd_T41 l1 x9_2).f0.f1) : Int).toNat x0_2.size)), (wrap64 (x9_2 - 1)), (by first | rfl | (simp; done) | (simp [*]; done)), (by first | rfl | (simp; done) | (simp [*]; done)), H', ⟨by have := HK1.out; have := HK2.out; omega⟩, ⟨pxb HB⟩⟩
                 ·rw [if_neg c18] at H
                  exact absurd H (by simp)
                ·rw [if_neg c17] at H
                 exact absurd H (by simp)
               ·rw [if_neg c16] at H
                exact absurd H (by simp)
              ·rw [if_neg c15] at H
               exact absurd H (by simp)
             ·rw [if_neg c14] at H
              exact absurd H (by simp)
            ·rw [if_neg c13] at H
             exact absurd H (by simp)
           ·rw [if_neg c12] at H
            exact absurd H (by simp)
          ·rw [if_neg c11] at H
           exact absurd H (by simp)
         ·rw [if_neg c10] at H
          have c10b0 : decide (0 ≤ x9_2) = false := decide_eq_false c10
          clear c10
          simp only [Option.some.injEq, Prod.mk.injEq] at H
          obtain ⟨rfl, rfl⟩ := H
          go_wp2
          repeat (go_quiet (fail); try go_wp2)
          go_ret2
          exact ⟨by first | rfl | (simp [errW_none, errW_some] <;> rfl) | (simp [*, errW_none, errW_some] <;> rfl), pxb HB⟩
  ·rw [if_neg c5] at H
   have c5b0 : (t271 == 0) = false := beq_eq_false_iff_ne.mpr c5
   have c5b1 : (t271 != 0) = true := bne_iff_ne.mpr c5
   simp only [Option.some.injEq, Prod.mk.injEq] at H
   obtain ⟨rfl, rfl⟩ := H
   go_enter Try.func13, Try.ntmps13
   go_wp2_with (first | (go_at_call 18; (with_reducible refine (caulkerref03_Check.calls k (a0.size : Int) _ _ l1 t271 _ ?side1 ?side2 A4.out).mono ?_); (case side1 => repeat (first | exact HR1.out | (with_reducible refine Kd.C_alloc ?_ _) | (with_reducible refine Kd.C_drewN ?_ _) | (with_reducible refine Kd.C_drew ?_))); (case side2 => exact HC1.out); rintro e w19 ⟨rfl, hb⟩; have n0_ := pxs HB hb; clear HB; have HB := n0_; clear n0_; (try clear hb); (try clear hb2); (try clear hk); (try clear hi)))
   repeat (go_quiet (first | (go_at_call 18; (with_reducible refine (caulkerref03_Check.calls k (a0.size : Int) _ _ l1 t271 _ ?side1 ?side2 A4.out).mono ?_); (case side1 => repeat (first | exact HR1.out | (with_reducible refine Kd.C_alloc ?_ _) | (with_reducible refine Kd.C_drewN ?_ _) | (with_reducible refine Kd.C_drew ?_))); (case side2 => exact HC1.out); rintro e w19 ⟨rfl, hb⟩; have n0_ := pxs HB hb; clear HB; have HB := n0_; clear n0_; (try clear hb); (try clear hb2); (try clear hk); (try clear hi))); try go_wp2_with (first | (go_at_call 18; (with_reducible refine (caulkerref03_Check.calls k (a0.size : Int) _ _ l1 t271 _ ?side1 ?side2 A4.out).mono ?_); (case side1 => repeat (first | exact HR1.out | (with_reducible refine Kd.C_alloc ?_ _) | (with_reducible refine Kd.C_drewN ?_ _) | (with_reducible refine Kd.C_drew ?_))); (case side2 => exact HC1.out); rintro e w19 ⟨rfl, hb⟩; have n0_ := pxs HB hb; clear HB; have HB := n0_; clear n0_; (try clear hb); (try clear hb2); (try clear hk); (try clear hi))))
   go_ret2
   exact ⟨by first | rfl | (simp [errW_none, errW_some] <;> rfl) | (simp [*, errW_none, errW_some] <;> rfl), pxb HB⟩

end Go.Proofs.Ytoljmjhmieaggaa.X
