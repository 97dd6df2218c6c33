/- What the program's functions answer, as Lean functions, and that each call does just that; no condition. Written by a program (px.py) out of the translation. -/
import Derived.Test.YtoljmjhmieaggaaM2
import Derived.Test.YtoljmjhmieaggaaShort2
namespace Go.Proofs.Ytoljmjhmieaggaa.X
open Go.RowKit Go.Proofs.YtoljmjhmieaggaaW.PrintWords Go.Proofs.YtoljmjhmieaggaaW.PrintLast Go.Proofs.YtoljmjhmieaggaaW.PrintMore
attribute [local go_sem] max2_int min2_int max_two min_two max_three min_three max_four min_four   -- for this text's walks alone
set_option linter.unusedVariables false
set_option linter.unusedSimpArgs false

/-! ### edit_trim: function 32 -/
mutual
def edit_trim.j1 : Nat → ByteArray → Int → Int → ByteArray → Option (Int × Int × ByteArray)
 | 0, _, _, _, _ => none
 | k + 1, x0, x383000, x383001, x383002 => edit_trim.l1 k x0 x383000 x383001 x383002
def edit_trim.l1 : Nat → ByteArray → Int → Int → ByteArray → Option (Int × Int × ByteArray)
 | 0, _, _, _, _ => none
 | k + 1, x0, x383000, x383001, x383002 => if x383000 < x383001 then (if x383002.toList = ([] : List UInt8) then (some (x383000, x383001, x383002)) else (if 0 ≤ (wrap64 (x383001 - 1)) then (if (wrap64 (x383001 - 1)) < (x0.size : Int) then (if 0 ≤ (wrap64 ((x383002.size : Int) - 1)) then (if (wrap64 ((x383002.size : Int) - 1)) < (x383002.size : Int) then (if (bt x0 (wrap64 (x383001 - 1))) = (bt x383002 (wrap64 ((x383002.size : Int) - 1))) then (if (wrap64 ((x383002.size : Int) - 1)) ≤ (x383002.size : Int) then (edit_trim.l1 k x0 x383000 (wrap64 (x383001 - 1)) (x383002.extract 0 ((wrap64 ((x383002.size : Int) - 1)) : Int).toNat)) else (none)) else (some (x383000, x383001, x383002))) else (none)) else (none)) else (none)) else (none))) else (some (x383000, x383001, x383002))
def edit_trim.l0 : Nat → ByteArray → Int → Int → ByteArray → Option (Int × Int × ByteArray)
 | 0, _, _, _, _ => none
 | k + 1, x0, x383000, x383001, x383002 => if x383000 < x383001 then (if x383002.toList = ([] : List UInt8) then (edit_trim.j1 k x0 x383000 x383001 x383002) else (if 0 ≤ x383000 then (if x383000 < (x0.size : Int) then (if 0 < (x383002.size : Int) then (if (bt x0 x383000) = (bt x383002 0) then (if 1 ≤ (x383002.size : Int) then (edit_trim.l0 k x0 (wrap64 (x383000 + 1)) x383001 (x383002.extract 1 x383002.size)) else (none)) else (edit_trim.j1 k x0 x383000 x383001 x383002)) else (none)) else (none)) else (none))) else (edit_trim.j1 k x0 x383000 x383001 x383002)
end
def edit_trim.f (k : Nat) (a0 : ByteArray) (a1_0 : Int) (a1_1 : Int) (a1_2 : ByteArray) : Option (Int × Int × ByteArray) := edit_trim.l0 k a0 a1_0 a1_1 a1_2
theorem edit_trim.mono_l : ∀ k, (∀ y0 y1 y2 y3, LeO (edit_trim.j1 k y0 y1 y2 y3) (edit_trim.j1 (k + 1) y0 y1 y2 y3)) ∧ (∀ y0 y1 y2 y3, LeO (edit_trim.l1 k y0 y1 y2 y3) (edit_trim.l1 (k + 1) y0 y1 y2 y3)) ∧ (∀ y0 y1 y2 y3, LeO (edit_trim.l0 k y0 y1 y2 y3) (edit_trim.l0 (k + 1) y0 y1 y2 y3))
 | 0 => ⟨fun _ _ _ _ r h => by simp [edit_trim.j1] at h, fun _ _ _ _ r h => by simp [edit_trim.l1] at h, fun _ _ _ _ r h => by simp [edit_trim.l0] at h⟩
 | k + 1 => by
  obtain ⟨ih0, ih1, ih2⟩ := edit_trim.mono_l k
  refine ⟨?_, ?_, ?_⟩
  ·intro y0 y1 y2 y3
   unfold edit_trim.j1
   repeat' first
   | (with_reducible exact ih0 _ _ _ _)
   | (with_reducible exact ih1 _ _ _ _)
   | (with_reducible exact ih2 _ _ _ _)
   | (with_reducible exact LeO.refl _)
   | (with_reducible exact LeO.none _)
   | (with_reducible refine LeO.ite ?_ ?_)
   | (with_reducible refine LeO.bind ?_ (fun _ => ?_))
   | exact ih0 _ _ _ _
   | exact ih1 _ _ _ _
   | exact ih2 _ _ _ _
   | exact LeO.none _
   | refine LeO.ite ?_ ?_
   | refine LeO.bind ?_ (fun _ => ?_)
  ·intro y0 y1 y2 y3
   unfold edit_trim.l1
   repeat' first
   | (with_reducible exact ih0 _ _ _ _)
   | (with_reducible exact ih1 _ _ _ _)
   | (with_reducible exact ih2 _ _ _ _)
   | (with_reducible exact LeO.refl _)
   | (with_reducible exact LeO.none _)
   | (with_reducible refine LeO.ite ?_ ?_)
   | (with_reducible refine LeO.bind ?_ (fun _ => ?_))
   | exact ih0 _ _ _ _
   | exact ih1 _ _ _ _
   | exact ih2 _ _ _ _
   | exact LeO.none _
   | refine LeO.ite ?_ ?_
   | refine LeO.bind ?_ (fun _ => ?_)
  ·intro y0 y1 y2 y3
   unfold edit_trim.l0
   repeat' first
   | (with_reducible exact ih0 _ _ _ _)
   | (with_reducible exact ih1 _ _ _ _)
   | (with_reducible exact ih2 _ _ _ _)
   | (with_reducible exact LeO.refl _)
   | (with_reducible exact LeO.none _)
   | (with_reducible refine LeO.ite ?_ ?_)
   | (with_reducible refine LeO.bind ?_ (fun _ => ?_))
   | exact ih0 _ _ _ _
   | exact ih1 _ _ _ _
   | exact ih2 _ _ _ _
   | exact LeO.none _
   | refine LeO.ite ?_ ?_
   | refine LeO.bind ?_ (fun _ => ?_)
theorem edit_trim.mono : ∀ a0 a1 a2 a3 k, LeO (edit_trim.f k a0 a1 a2 a3) (edit_trim.f (k + 1) a0 a1 a2 a3) := by
 intro a0 a1 a2 a3 k
 obtain ⟨ih0, ih1, ih2⟩ := edit_trim.mono_l k
 unfold edit_trim.f
 repeat' first
   | (with_reducible exact ih0 _ _ _ _)
   | (with_reducible exact ih1 _ _ _ _)
   | (with_reducible exact ih2 _ _ _ _)
   | (with_reducible exact LeO.refl _)
   | (with_reducible exact LeO.none _)
   | (with_reducible refine LeO.ite ?_ ?_)
   | (with_reducible refine LeO.bind ?_ (fun _ => ?_))
   | exact ih0 _ _ _ _
   | exact ih1 _ _ _ _
   | exact ih2 _ _ _ _
   | exact LeO.none _
   | refine LeO.ite ?_ ?_
   | refine LeO.bind ?_ (fun _ => ?_)
set_option maxHeartbeats 8000000 in
set_option maxRecDepth 100000 in
theorem edit_trim.calls (k : Nat) (a0 : ByteArray) (a1_0 : Int) (a1_1 : Int) (a1_2 : ByteArray) (r1 : Int) (r2 : Int) (r3 : ByteArray) (w : World) (h : edit_trim.f k a0 a1_0 a1_1 a1_2 = some (r1, r2, r3)) :
  Calls Try.prog 32 #[.string a0, .agg #[.int .i64 a1_0, .int .i64 a1_1, .string a1_2]] w fun e w' => e = .returned (.agg #[.int .i64 r1, .int .i64 r2, .string r3]) ∧ Below w.heap.size w w' := by
 have hu41 := Try.underlying41
 have HB := Aside0.mk (Below.refl w.heap.size w)
 have H : (edit_trim.l0 k a0 a1_0 a1_1 a1_2) = some (r1, r2, r3) := h
 clear h
 have HC3 := Aside0.mk H
 clear H
 go_enter Try.func32, Try.ntmps32
 go_upto_block 0 with (first | ((with_reducible refine gate_dst (N := 3) rfl ?_); refine box_event ?hg (N := 3) ?hd (cs := #[.int .i64 a1_0, .int .i64 a1_1, .string a1_2]) (t := 41) ?hr ?_; (case hd => rfl); (case hg => rfl); (case hr => first | (go_simp; done) | (go_simp; rfl)); intro gb382 hg w4 hbox hb; have BK382 := Aside0.mk (hbox); have GW382 := pxw HB hg; have GE382 := pxw HB hg; replace HB := pxs HB hb; clear hb hbox hg) | ((with_reducible refine gate_dst (N := 4) rfl ?_); refine box_event ?hg (N := 4) ?hd (cs := #[.int .i64 0, .int .i64 0, .string (⟨#[]⟩ : ByteArray)]) (t := 41) ?hr ?_; (case hd => rfl); (case hg => rfl); (case hr => first | (go_simp; done) | (go_simp; rfl)); intro gb383 hg w5 hbox hb; have BK383 := Aside0.mk (hbox); have GW383 := pxw HB hg; have GE383 := pxw HB hg; have NB382_383 := pxn BK382 hg; have NB383_382 := Aside0.mk (pxn BK382 hg).out.symm; replace BK382 := pxk BK382 hb; replace HB := pxs HB hb; clear hb hbox hg))
 repeat (go_quiet (fail); go_upto_block 0 with (first | ((with_reducible refine gate_dst (N := 3) rfl ?_); refine box_event ?hg (N := 3) ?hd (cs := #[.int .i64 a1_0, .int .i64 a1_1, .string a1_2]) (t := 41) ?hr ?_; (case hd => rfl); (case hg => rfl); (case hr => first | (go_simp; done) | (go_simp; rfl)); intro gb382 hg w4 hbox hb; have BK382 := Aside0.mk (hbox); have GW382 := pxw HB hg; have GE382 := pxw HB hg; replace HB := pxs HB hb; clear hb hbox hg) | ((with_reducible refine gate_dst (N := 4) rfl ?_); refine box_event ?hg (N := 4) ?hd (cs := #[.int .i64 0, .int .i64 0, .string (⟨#[]⟩ : ByteArray)]) (t := 41) ?hr ?_; (case hd => rfl); (case hg => rfl); (case hr => first | (go_simp; done) | (go_simp; rfl)); intro gb383 hg w5 hbox hb; have BK383 := Aside0.mk (hbox); have GW383 := pxw HB hg; have GE383 := pxw HB hg; have NB382_383 := pxn BK382 hg; have NB383_382 := Aside0.mk (pxn BK382 hg).out.symm; replace BK382 := pxk BK382 hb; replace HB := pxs HB hb; clear hb hbox hg)))
 (try simp only [Act.put, List.setIfInBounds_toArray, List.set_cons_zero, List.set_cons_succ])
 go_cut [] (fun wc => ∃ (kq : Nat) (x383000_2 : Int) (x383002_2 : ByteArray), Aside0 (edit_trim.j1 kq a0 x383000_2 a1_1 x383002_2 = some (r1, r2, r3)) ∧ Aside0 (kq ≤ k) ∧ Aside0 (wc.heap[gb382]? = some (.cells #[.int .i64 x383000_2, .int .i64 a1_1, .string x383002_2] 41 (0, 0))) ∧ Aside0 (wc.heap[gb383]? = some (.cells #[.int .i64 0, .int .i64 0, .string (⟨#[]⟩ : ByteArray)] 41 (0, 0))) ∧ Aside0 (Below w.heap.size w wc))
 case first =>
  have H := HC3.out
  clear HC3
  have H' := Aside0.mk H
  clear H
  go_wp2
  repeat (go_quiet (fail); try go_wp2)
  go_loopg [] k (fun kq w' => ∃ (x383000_1 : Int) (x383002_1 : ByteArray), Aside0 (edit_trim.l0 kq a0 x383000_1 a1_1 x383002_1 = some (r1, r2, r3)) ∧ Aside0 (kq ≤ k) ∧ Aside0 (w'.heap[gb382]? = some (.cells #[.int .i64 x383000_1, .int .i64 a1_1, .string x383002_1] 41 (0, 0))) ∧ Aside0 (w'.heap[gb383]? = some (.cells #[.int .i64 0, .int .i64 0, .string (⟨#[]⟩ : ByteArray)] 41 (0, 0))) ∧ Aside0 (Below w.heap.size w w'))
  case atStart => exact ⟨(a1_0), (a1_2), H', ⟨Nat.le_refl _⟩, ⟨pxq BK382⟩, ⟨pxq BK383⟩, ⟨pxb HB⟩⟩
  case round =>
   clear H'
   (try clear p2); (try clear c3)
   obtain ⟨x383000_1, x383002_1, HA, HK1, BK382, BK383, HB⟩ := hrel
   cases gk with
   | zero => exact absurd HA.out (by simp [edit_trim.l0])
   | succ k1 =>
    have H := HA.out
    clear HA
    simp only [edit_trim.l0] at H
    by_cases c6 : x383000_1 < a1_1
    ·rw [if_pos c6] at H
     have c6b0 : decide (x383000_1 < a1_1) = true := decide_eq_true c6
     clear c6
     (first | rw [c6b0] | (simp only [i64_w, i32_w]; rw [c6b0]) | skip)
     by_cases c7 : x383002_1.toList = ([] : List UInt8)
     ·rw [if_pos c7] at H
      have c7b0 : (x383002_1.toList == ([] : List UInt8)) = true := beq_iff_eq.mpr c7
      (try (have c7b0e : (x383002_1.toList.isEmpty) = true := by simpa only [pxbeq, pxbne] using c7b0))
      have c7b1 : (x383002_1.toList != ([] : List UInt8)) = false := bne_eq_false_iff_eq.mpr c7
      (try (have c7b1e : ((!x383002_1.toList.isEmpty)) = false := by simpa only [pxbeq, pxbne] using c7b1))
      clear c7
      have H' := Aside0.mk H
      clear H
      have hnb8 := NB382_383.out
      have hnc8 := NB383_382.out
      have hcz9_0 : wr.cell? ⟨gb382, 0, none⟩ = some (.int .i64 x383000_1) := (blk_cell BK382.out 0).trans rfl
      have hcz9_1 : wr.cell? ⟨gb382, 1, none⟩ = some (.int .i64 a1_1) := (blk_cell BK382.out 1).trans rfl
      have hcz9_2 : wr.cell? ⟨gb382, 2, none⟩ = some (.string x383002_1) := (blk_cell BK382.out 2).trans rfl
      have hfz9_0 := blk_frozen BK382.out 0
      have hfz9_1 := blk_frozen BK382.out 1
      have hfz9_2 := blk_frozen BK382.out 2
      go_wp2
      repeat (go_quiet (fail); try go_wp2)
      go_meet
      case rel => exact ⟨_, (x383000_1), (x383002_1), H', ⟨by have := HK1.out; first | omega | exact Nat.le_refl _⟩, ⟨pxq BK382⟩, ⟨pxq BK383⟩, ⟨pxb HB⟩⟩
     ·rw [if_neg c7] at H
      have c7b0 : (x383002_1.toList == ([] : List UInt8)) = false := beq_eq_false_iff_ne.mpr c7
      (try (have c7b0e : (x383002_1.toList.isEmpty) = false := by simpa only [pxbeq, pxbne] using c7b0))
      have c7b1 : (x383002_1.toList != ([] : List UInt8)) = true := bne_iff_ne.mpr c7
      (try (have c7b1e : ((!x383002_1.toList.isEmpty)) = true := by simpa only [pxbeq, pxbne] using c7b1))
      by_cases c10 : 0 ≤ x383000_1
      ·rw [if_pos c10] at H
       have c10b0 : decide (0 ≤ x383000_1) = true := decide_eq_true c10
       clear c10
       by_cases c11 : x383000_1 < (a0.size : Int)
       ·rw [if_pos c11] at H
        have c11b0 : decide (x383000_1 < (a0.size : Int)) = true := decide_eq_true c11
        clear c11
        by_cases c13 : 0 < (x383002_1.size : Int)
        ·rw [if_pos c13] at H
         have c13b0 : decide (0 < (x383002_1.size : Int)) = true := decide_eq_true c13
         have c13b1 : decide (0 < x383002_1.size) = true := decide_eq_true (by omega)
         clear c13
         by_cases c15 : (bt a0 x383000_1) = (bt x383002_1 0)
         ·rw [if_pos c15] at H
          have c15b0 : ((bt a0 x383000_1) == (bt x383002_1 0)) = true := beq_iff_eq.mpr c15
          have c15b1 : ((bt a0 x383000_1) != (bt x383002_1 0)) = false := bne_eq_false_iff_eq.mpr c15
          clear c15
          by_cases c16 : 1 ≤ (x383002_1.size : Int)
          ·rw [if_pos c16] at H
           have c16b0 := eq_true c16
           have c16b1 : decide (1 ≤ (x383002_1.size : Int)) = true := decide_eq_true c16
           clear c16
           have H' := Aside0.mk H
           clear H
           have hnb17 := NB382_383.out
           have hnc17 := NB383_382.out
           have hcz18_0 : wr.cell? ⟨gb382, 0, none⟩ = some (.int .i64 x383000_1) := (blk_cell BK382.out 0).trans rfl
           have hcz18_1 : wr.cell? ⟨gb382, 1, none⟩ = some (.int .i64 a1_1) := (blk_cell BK382.out 1).trans rfl
           have hcz18_2 : wr.cell? ⟨gb382, 2, none⟩ = some (.string x383002_1) := (blk_cell BK382.out 2).trans rfl
           have hfz18_0 := blk_frozen BK382.out 0
           have hfz18_1 := blk_frozen BK382.out 1
           have hfz18_2 := blk_frozen BK382.out 2
           have p12 : 0 ≤ (x383000_1 : Int) := pxd
           have q12 : x383000_1 < (a0.size : Int) := pxd
           have hx12 := bt_at a0 x383000_1
           replace p12 := eq_true p12
           replace q12 := eq_true q12
           have p14 : 0 ≤ (0 : Int) := (by omega)
           have q14 : 0 < x383002_1.size := (by have : (0 : Int) < (x383002_1.size : Int) := pxd; omega)
           have hx14 : ∀ h : 0 < x383002_1.size, ((x383002_1[0]'h).toNat : Int) = bt x383002_1 0 := bt_at x383002_1 0
           clear p14
           have qi14 : (0 < (x383002_1.size : Int)) = True := eq_true (pxd)
           replace q14 := eq_true q14
           go_wp2
           repeat (go_quiet (fail); try go_wp2)
           go_roundg k1
           case measure => have := HK1.out; omega
           case rel => exact ⟨(wrap64 (x383000_1 + 1)), (x383002_1.extract 1 x383002_1.size), H', ⟨by have := HK1.out; omega⟩, ⟨pxp BK382⟩, ⟨pxp BK383⟩, ⟨pxb HB⟩⟩
          ·rw [if_neg c16] at H
           exact absurd H (by simp)
         ·rw [if_neg c15] at H
          have c15b0 : ((bt a0 x383000_1) == (bt x383002_1 0)) = false := beq_eq_false_iff_ne.mpr c15
          have c15b1 : ((bt a0 x383000_1) != (bt x383002_1 0)) = true := bne_iff_ne.mpr c15
          have H' := Aside0.mk H
          clear H
          have hnb19 := NB382_383.out
          have hnc19 := NB383_382.out
          have hcz20_0 : wr.cell? ⟨gb382, 0, none⟩ = some (.int .i64 x383000_1) := (blk_cell BK382.out 0).trans rfl
          have hcz20_1 : wr.cell? ⟨gb382, 1, none⟩ = some (.int .i64 a1_1) := (blk_cell BK382.out 1).trans rfl
          have hcz20_2 : wr.cell? ⟨gb382, 2, none⟩ = some (.string x383002_1) := (blk_cell BK382.out 2).trans rfl
          have hfz20_0 := blk_frozen BK382.out 0
          have hfz20_1 := blk_frozen BK382.out 1
          have hfz20_2 := blk_frozen BK382.out 2
          have p12 : 0 ≤ (x383000_1 : Int) := pxd
          have q12 : x383000_1 < (a0.size : Int) := pxd
          have hx12 := bt_at a0 x383000_1
          replace p12 := eq_true p12
          replace q12 := eq_true q12
          have p14 : 0 ≤ (0 : Int) := (by omega)
          have q14 : 0 < x383002_1.size := (by have : (0 : Int) < (x383002_1.size : Int) := pxd; omega)
          have hx14 : ∀ h : 0 < x383002_1.size, ((x383002_1[0]'h).toNat : Int) = bt x383002_1 0 := bt_at x383002_1 0
          clear p14
          have qi14 : (0 < (x383002_1.size : Int)) = True := eq_true (pxd)
          replace q14 := eq_true q14
          go_wp2
          repeat (go_quiet (fail); try go_wp2)
          go_meet
          case rel => exact ⟨_, (x383000_1), (x383002_1), H', ⟨by have := HK1.out; first | omega | exact Nat.le_refl _⟩, ⟨pxq BK382⟩, ⟨pxq BK383⟩, ⟨pxb HB⟩⟩
        ·rw [if_neg c13] at H
         exact absurd H (by simp)
       ·rw [if_neg c11] at H
        exact absurd H (by simp)
      ·rw [if_neg c10] at H
       exact absurd H (by simp)
    ·rw [if_neg c6] at H
     have c6b0 : decide (x383000_1 < a1_1) = false := decide_eq_false c6
     clear c6
     (first | rw [c6b0] | (simp only [i64_w, i32_w]; rw [c6b0]) | skip)
     have H' := Aside0.mk H
     clear H
     have hnb21 := NB382_383.out
     have hnc21 := NB383_382.out
     have hcz22_0 : wr.cell? ⟨gb382, 0, none⟩ = some (.int .i64 x383000_1) := (blk_cell BK382.out 0).trans rfl
     have hcz22_1 : wr.cell? ⟨gb382, 1, none⟩ = some (.int .i64 a1_1) := (blk_cell BK382.out 1).trans rfl
     have hcz22_2 : wr.cell? ⟨gb382, 2, none⟩ = some (.string x383002_1) := (blk_cell BK382.out 2).trans rfl
     have hfz22_0 := blk_frozen BK382.out 0
     have hfz22_1 := blk_frozen BK382.out 1
     have hfz22_2 := blk_frozen BK382.out 2
     go_wp2
     repeat (go_quiet (fail); try go_wp2)
     go_meet
     case rel => exact ⟨_, (x383000_1), (x383002_1), H', ⟨by have := HK1.out; first | omega | exact Nat.le_refl _⟩, ⟨pxq BK382⟩, ⟨pxq BK383⟩, ⟨pxb HB⟩⟩
 case rest =>
  clear HC3
  (try clear c1); (try clear p1); (try clear q1); (try clear hx1); (try clear qi1); (try clear c2); (try clear p2); (try clear c3); (try clear c6); (try clear c6b0); (try clear p6); (try clear c7); (try clear c7b0); (try clear c7b1); (try clear c8); (try clear c10); (try clear c10b0); (try clear c11); (try clear c11b0); (try clear p12); (try clear q12); (try clear hx12); (try clear c13); (try clear c13b0); (try clear c13b1); (try clear p14); (try clear q14); (try clear hx14); (try clear qi14); (try clear c15); (try clear c15b0); (try clear c15b1); (try clear c16); (try clear c16b0); (try clear c16b1); (try clear c17); (try clear c19); (try clear c21); (try clear hcz18_0 hcz18_1 hcz18_2 hfz18_0 hfz18_1 hfz18_2); (try clear hcz20_0 hcz20_1 hcz20_2 hfz20_0 hfz20_1 hfz20_2); (try clear hcz22_0 hcz22_1 hcz22_2 hfz22_0 hfz22_1 hfz22_2); (try clear hcz9_0 hcz9_1 hcz9_2 hfz9_0 hfz9_1 hfz9_2)
  obtain ⟨kq, x383000_2, x383002_2, HA, HJ2, BK382, BK383, HB⟩ := hcut
  cases kq with
  | zero => exact absurd HA.out (by simp [edit_trim.j1])
  | succ kj2 =>
   have H := HA.out
   clear HA
   simp only [edit_trim.j1] at H
   have H' := Aside0.mk H
   clear H
   go_wp2
   repeat (go_quiet (fail); try go_wp2)
   go_loopg [] kj2 (fun kq w' => ∃ (x383001_2 : Int) (x383002_2 : ByteArray), Aside0 (edit_trim.l1 kq a0 x383000_2 x383001_2 x383002_2 = some (r1, r2, r3)) ∧ Aside0 (kq ≤ kj2) ∧ Aside0 (w'.heap[gb382]? = some (.cells #[.int .i64 x383000_2, .int .i64 x383001_2, .string x383002_2] 41 (0, 0))) ∧ Aside0 (w'.heap[gb383]? = some (.cells #[.int .i64 0, .int .i64 0, .string (⟨#[]⟩ : ByteArray)] 41 (0, 0))) ∧ Aside0 (Below w.heap.size w w'))
   case atStart => exact ⟨(a1_1), (x383002_2), H', ⟨Nat.le_refl _⟩, ⟨pxq BK382⟩, ⟨pxq BK383⟩, ⟨pxb HB⟩⟩
   case round =>
    clear H'
    (try clear c1); (try clear p1); (try clear q1); (try clear hx1); (try clear qi1); (try clear c2); (try clear p2); (try clear c3); (try clear c6); (try clear c6b0); (try clear p6); (try clear c7); (try clear c7b0); (try clear c7b1); (try clear c8); (try clear c10); (try clear c10b0); (try clear c11); (try clear c11b0); (try clear p12); (try clear q12); (try clear hx12); (try clear c13); (try clear c13b0); (try clear c13b1); (try clear p14); (try clear q14); (try clear hx14); (try clear qi14); (try clear c15); (try clear c15b0); (try clear c15b1); (try clear c16); (try clear c16b0); (try clear c16b1); (try clear c17); (try clear c19); (try clear c21); (try clear hcz18_0 hcz18_1 hcz18_2 hfz18_0 hfz18_1 hfz18_2); (try clear hcz20_0 hcz20_1 hcz20_2 hfz20_0 hfz20_1 hfz20_2); (try clear hcz22_0 hcz22_1 hcz22_2 hfz22_0 hfz22_1 hfz22_2); (try clear hcz9_0 hcz9_1 hcz9_2 hfz9_0 hfz9_1 hfz9_2)
    obtain ⟨x383001_2, x383002_2, HA, HK2, BK382, BK383, HB⟩ := hrel
    cases gk with
    | zero => exact absurd HA.out (by simp [edit_trim.l1])
    | succ k2 =>
     have H := HA.out
     clear HA
     simp only [edit_trim.l1] at H
     by_cases c23 : x383000_2 < x383001_2
     ·rw [if_pos c23] at H
      have c23b0 : decide (x383000_2 < x383001_2) = true := decide_eq_true c23
      clear c23
      by_cases c24 : x383002_2.toList = ([] : List UInt8)
      ·rw [if_pos c24] at H
       have c24b0 : (x383002_2.toList == ([] : List UInt8)) = true := beq_iff_eq.mpr c24
       (try (have c24b0e : (x383002_2.toList.isEmpty) = true := by simpa only [pxbeq, pxbne] using c24b0))
       have c24b1 : (x383002_2.toList != ([] : List UInt8)) = false := bne_eq_false_iff_eq.mpr c24
       (try (have c24b1e : ((!x383002_2.toList.isEmpty)) = false := by simpa only [pxbeq, pxbne] using c24b1))
       clear c24
       simp only [Option.some.injEq, Prod.mk.injEq] at H
       obtain ⟨rfl, rfl, rfl⟩ := H
       have hnb25 := NB382_383.out
       have hnc25 := NB383_382.out
       have hcz26_0 : wr.cell? ⟨gb382, 0, none⟩ = some (.int .i64 x383000_2) := (blk_cell BK382.out 0).trans rfl
       have hcz26_1 : wr.cell? ⟨gb382, 1, none⟩ = some (.int .i64 x383001_2) := (blk_cell BK382.out 1).trans rfl
       have hcz26_2 : wr.cell? ⟨gb382, 2, none⟩ = some (.string x383002_2) := (blk_cell BK382.out 2).trans rfl
       have hfz26_0 := blk_frozen BK382.out 0
       have hfz26_1 := blk_frozen BK382.out 1
       have hfz26_2 := blk_frozen BK382.out 2
       have hcz27_0 : wr.cell? ⟨gb383, 0, none⟩ = some (.int .i64 0) := (blk_cell BK383.out 0).trans rfl
       have hcz27_1 : wr.cell? ⟨gb383, 1, none⟩ = some (.int .i64 0) := (blk_cell BK383.out 1).trans rfl
       have hcz27_2 : wr.cell? ⟨gb383, 2, none⟩ = some (.string (⟨#[]⟩ : ByteArray)) := (blk_cell BK383.out 2).trans rfl
       have hfz27_0 := blk_frozen BK383.out 0
       have hfz27_1 := blk_frozen BK383.out 1
       have hfz27_2 := blk_frozen BK383.out 2
       go_wp2
       repeat (go_quiet (fail); try go_wp2)
       refine bodyPost_ret (results_cell_row rfl _ _ gb383 41 #[.int .i64 x383000_2, .int .i64 x383001_2, .string x383002_2] (0, 0) _ rfl (pxp BK383) Try.underlying41 rfl (by kernel_rfl)) rfl ?_
       exact ⟨by first | rfl | (simp [errW_none, errW_some] <;> rfl) | (simp [*, errW_none, errW_some] <;> rfl) | (simp [*, pxbeq, pxbne, errW_none, errW_some]; done), pxb HB⟩
      ·rw [if_neg c24] at H
       have c24b0 : (x383002_2.toList == ([] : List UInt8)) = false := beq_eq_false_iff_ne.mpr c24
       (try (have c24b0e : (x383002_2.toList.isEmpty) = false := by simpa only [pxbeq, pxbne] using c24b0))
       have c24b1 : (x383002_2.toList != ([] : List UInt8)) = true := bne_iff_ne.mpr c24
       (try (have c24b1e : ((!x383002_2.toList.isEmpty)) = true := by simpa only [pxbeq, pxbne] using c24b1))
       obtain ⟨ji28, hji28⟩ : ∃ j_ : Int, (wrap64 (x383001_2 - 1)) = j_ := ⟨_, rfl⟩
       replace H : (if 0 ≤ (ji28) then (if (ji28) < (a0.size : Int) then (if 0 ≤ (wrap64 ((x383002_2.size : Int) - 1)) then (if (wrap64 ((x383002_2.size : Int) - 1)) < (x383002_2.size : Int) then (if (bt a0 (ji28)) = (bt x383002_2 (wrap64 ((x383002_2.size : Int) - 1))) then (if (wrap64 ((x383002_2.size : Int) - 1)) ≤ (x383002_2.size : Int) then (edit_trim.l1 k2 a0 x383000_2 ji28 (x383002_2.extract 0 ((wrap64 ((x383002_2.size : Int) - 1)) : Int).toNat)) else (none)) else (some (x383000_2, x383001_2, x383002_2))) else (none)) else (none)) else (none)) else (none)) = some (r1, r2, r3) := by first | (rw [hji28] at H; exact H) | (simp only [hji28] at H ⊢; exact H)
       have hji28w : (IntKind.i64.wrap (x383001_2 - 1)) = ji28 := (i64_w _).trans hji28
       by_cases c29 : 0 ≤ (ji28)
       ·rw [if_pos c29] at H
        have c29b0 : decide (0 ≤ (ji28)) = true := decide_eq_true c29
        clear c29
        by_cases c30 : (ji28) < (a0.size : Int)
        ·rw [if_pos c30] at H
         have c30b0 : decide ((ji28) < (a0.size : Int)) = true := decide_eq_true c30
         clear c30
         obtain ⟨ji32, hji32⟩ : ∃ j_ : Int, (wrap64 ((x383002_2.size : Int) - 1)) = j_ := ⟨_, rfl⟩
         replace H : (if 0 ≤ (ji32) then (if (ji32) < (x383002_2.size : Int) then (if (bt a0 (ji28)) = (bt x383002_2 (ji32)) then (if (ji32) ≤ (x383002_2.size : Int) then (edit_trim.l1 k2 a0 x383000_2 ji28 (x383002_2.extract 0 ((ji32) : Int).toNat)) else (none)) else (some (x383000_2, x383001_2, x383002_2))) else (none)) else (none)) = some (r1, r2, r3) := by first | (rw [hji32] at H; exact H) | (simp only [hji32] at H ⊢; exact H)
         have hji32w : (IntKind.i64.wrap ((x383002_2.size : Int) - 1)) = ji32 := (i64_w _).trans hji32
         by_cases c33 : 0 ≤ (ji32)
         ·rw [if_pos c33] at H
          have c33b0 : decide (0 ≤ (ji32)) = true := decide_eq_true c33
          clear c33
          by_cases c34 : (ji32) < (x383002_2.size : Int)
          ·rw [if_pos c34] at H
           have c34b0 : decide ((ji32) < (x383002_2.size : Int)) = true := decide_eq_true c34
           clear c34
           by_cases c36 : (bt a0 (ji28)) = (bt x383002_2 (ji32))
           ·rw [if_pos c36] at H
            have c36b0 : ((bt a0 (ji28)) == (bt x383002_2 (ji32))) = true := beq_iff_eq.mpr c36
            have c36b1 : ((bt a0 (ji28)) != (bt x383002_2 (ji32))) = false := bne_eq_false_iff_eq.mpr c36
            clear c36
            have c37b0 := eq_true (pxd : 0 ≤ (ji32))
            by_cases c38 : (ji32) ≤ (x383002_2.size : Int)
            ·rw [if_pos c38] at H
             have c38b0 := eq_true c38
             have c38b1 : decide ((ji32) ≤ (x383002_2.size : Int)) = true := decide_eq_true c38
             clear c38
             have H' := Aside0.mk H
             clear H
             have hnb39 := NB382_383.out
             have hnc39 := NB383_382.out
             have hcz40_0 : wr.cell? ⟨gb382, 0, none⟩ = some (.int .i64 x383000_2) := (blk_cell BK382.out 0).trans rfl
             have hcz40_1 : wr.cell? ⟨gb382, 1, none⟩ = some (.int .i64 x383001_2) := (blk_cell BK382.out 1).trans rfl
             have hcz40_2 : wr.cell? ⟨gb382, 2, none⟩ = some (.string x383002_2) := (blk_cell BK382.out 2).trans rfl
             have hfz40_0 := blk_frozen BK382.out 0
             have hfz40_1 := blk_frozen BK382.out 1
             have hfz40_2 := blk_frozen BK382.out 2
             have p31 : 0 ≤ ((ji28) : Int) := pxd
             have q31 : (ji28) < (a0.size : Int) := pxd
             have hx31 := bt_at a0 (ji28)
             replace p31 := eq_true p31
             replace q31 := eq_true q31
             have p35 : 0 ≤ ((ji32) : Int) := pxd
             have q35 : (ji32) < (x383002_2.size : Int) := pxd
             have hx35 := bt_at x383002_2 (ji32)
             replace p35 := eq_true p35
             replace q35 := eq_true q35
             go_wp2
             repeat (go_quiet (fail); try go_wp2)
             go_roundg k2
             case measure => have := HJ2.out; have := HK2.out; omega
             case rel => exact ⟨(ji28), (x383002_2.extract 0 ((ji32) : Int).toNat), H', ⟨by have := HJ2.out; have := HK2.out; omega⟩, ⟨pxp BK382⟩, ⟨pxp BK383⟩, ⟨pxb HB⟩⟩
            ·rw [if_neg c38] at H
             exact absurd H (by simp)
           ·rw [if_neg c36] at H
            have c36b0 : ((bt a0 (ji28)) == (bt x383002_2 (ji32))) = false := beq_eq_false_iff_ne.mpr c36
            have c36b1 : ((bt a0 (ji28)) != (bt x383002_2 (ji32))) = true := bne_iff_ne.mpr c36
            simp only [Option.some.injEq, Prod.mk.injEq] at H
            obtain ⟨rfl, rfl, rfl⟩ := H
            have hnb41 := NB382_383.out
            have hnc41 := NB383_382.out
            have hcz42_0 : wr.cell? ⟨gb382, 0, none⟩ = some (.int .i64 x383000_2) := (blk_cell BK382.out 0).trans rfl
            have hcz42_1 : wr.cell? ⟨gb382, 1, none⟩ = some (.int .i64 x383001_2) := (blk_cell BK382.out 1).trans rfl
            have hcz42_2 : wr.cell? ⟨gb382, 2, none⟩ = some (.string x383002_2) := (blk_cell BK382.out 2).trans rfl
            have hfz42_0 := blk_frozen BK382.out 0
            have hfz42_1 := blk_frozen BK382.out 1
            have hfz42_2 := blk_frozen BK382.out 2
            have p31 : 0 ≤ ((ji28) : Int) := pxd
            have q31 : (ji28) < (a0.size : Int) := pxd
            have hx31 := bt_at a0 (ji28)
            replace p31 := eq_true p31
            replace q31 := eq_true q31
            have p35 : 0 ≤ ((ji32) : Int) := pxd
            have q35 : (ji32) < (x383002_2.size : Int) := pxd
            have hx35 := bt_at x383002_2 (ji32)
            replace p35 := eq_true p35
            replace q35 := eq_true q35
            have hcz43_0 : wr.cell? ⟨gb383, 0, none⟩ = some (.int .i64 0) := (blk_cell BK383.out 0).trans rfl
            have hcz43_1 : wr.cell? ⟨gb383, 1, none⟩ = some (.int .i64 0) := (blk_cell BK383.out 1).trans rfl
            have hcz43_2 : wr.cell? ⟨gb383, 2, none⟩ = some (.string (⟨#[]⟩ : ByteArray)) := (blk_cell BK383.out 2).trans rfl
            have hfz43_0 := blk_frozen BK383.out 0
            have hfz43_1 := blk_frozen BK383.out 1
            have hfz43_2 := blk_frozen BK383.out 2
            go_wp2
            repeat (go_quiet (fail); try go_wp2)
            refine bodyPost_ret (results_cell_row rfl _ _ gb383 41 #[.int .i64 x383000_2, .int .i64 x383001_2, .string x383002_2] (0, 0) _ rfl (pxp BK383) Try.underlying41 rfl (by kernel_rfl)) rfl ?_
            exact ⟨by first | rfl | (simp [errW_none, errW_some] <;> rfl) | (simp only [← hji28, ← hji32]; first | rfl | (simp [errW_none, errW_some] <;> rfl)) | (simp [*, errW_none, errW_some] <;> rfl) | (simp [*, pxbeq, pxbne, errW_none, errW_some]; done), pxb HB⟩
          ·rw [if_neg c34] at H
           exact absurd H (by simp)
         ·rw [if_neg c33] at H
          exact absurd H (by simp)
        ·rw [if_neg c30] at H
         exact absurd H (by simp)
       ·rw [if_neg c29] at H
        exact absurd H (by simp)
     ·rw [if_neg c23] at H
      have c23b0 : decide (x383000_2 < x383001_2) = false := decide_eq_false c23
      clear c23
      simp only [Option.some.injEq, Prod.mk.injEq] at H
      obtain ⟨rfl, rfl, rfl⟩ := H
      have hnb44 := NB382_383.out
      have hnc44 := NB383_382.out
      have hcz45_0 : wr.cell? ⟨gb382, 0, none⟩ = some (.int .i64 x383000_2) := (blk_cell BK382.out 0).trans rfl
      have hcz45_1 : wr.cell? ⟨gb382, 1, none⟩ = some (.int .i64 x383001_2) := (blk_cell BK382.out 1).trans rfl
      have hcz45_2 : wr.cell? ⟨gb382, 2, none⟩ = some (.string x383002_2) := (blk_cell BK382.out 2).trans rfl
      have hfz45_0 := blk_frozen BK382.out 0
      have hfz45_1 := blk_frozen BK382.out 1
      have hfz45_2 := blk_frozen BK382.out 2
      have hcz46_0 : wr.cell? ⟨gb383, 0, none⟩ = some (.int .i64 0) := (blk_cell BK383.out 0).trans rfl
      have hcz46_1 : wr.cell? ⟨gb383, 1, none⟩ = some (.int .i64 0) := (blk_cell BK383.out 1).trans rfl
      have hcz46_2 : wr.cell? ⟨gb383, 2, none⟩ = some (.string (⟨#[]⟩ : ByteArray)) := (blk_cell BK383.out 2).trans rfl
      have hfz46_0 := blk_frozen BK383.out 0
      have hfz46_1 := blk_frozen BK383.out 1
      have hfz46_2 := blk_frozen BK383.out 2
      go_wp2
      repeat (go_quiet (fail); try go_wp2)
      refine bodyPost_ret (results_cell_row rfl _ _ gb383 41 #[.int .i64 x383000_2, .int .i64 x383001_2, .string x383002_2] (0, 0) _ rfl (pxp BK383) Try.underlying41 rfl (by kernel_rfl)) rfl ?_
      exact ⟨by first | rfl | (simp [errW_none, errW_some] <;> rfl) | (simp [*, errW_none, errW_some] <;> rfl) | (simp [*, pxbeq, pxbne, errW_none, errW_some]; done), pxb HB⟩

end Go.Proofs.Ytoljmjhmieaggaa.X
