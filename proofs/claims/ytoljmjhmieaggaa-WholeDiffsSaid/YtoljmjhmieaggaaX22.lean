/- What the program's functions answer, as Lean functions, and that each call does just that; no condition. Written by a program (px.py) out of the translation. -/
import Derived.Test.YtoljmjhmieaggaaM2
import Derived.Test.YtoljmjhmieaggaaX19
import Derived.Test.YtoljmjhmieaggaaX37
import Derived.Test.YtoljmjhmieaggaaBld
namespace Go.Proofs.Ytoljmjhmieaggaa.X
open Go.RowKit Go.Proofs.YtoljmjhmieaggaaW.PrintWords Go.Proofs.YtoljmjhmieaggaaW.PrintLast Go.Proofs.YtoljmjhmieaggaaW.PrintMore
attribute [local go_sem] max2_int min2_int max_two min_two max_three min_three max_four min_four   -- for this text's walks alone
set_option linter.unusedVariables false
set_option linter.unusedSimpArgs false

/-! ### edit_Apply: function 22 -/
def edit_Apply.l0 : Nat → ByteArray → List (S41) → Int → Int → List UInt8 → Option (ByteArray × Int)
 | 0, _, _, _, _, _ => none
 | k + 1, a0, l1, i, at_, b => if i < (l1.length : Int) then (if 0 ≤ at_ then (if at_ ≤ (rd_T41 l1 i).f0.f0 then (if (rd_T41 l1 i).f0.f0 ≤ (a0.size : Int) then (if b.length + (a0.extract at_.toNat (rd_T41 l1 i).f0.f0.toNat).size + (rd_T41 l1 i).f1.size ≤ 140737488355328 then edit_Apply.l0 k a0 l1 (i + 1) (rd_T41 l1 i).f0.f1 (b ++ (a0.extract at_.toNat (rd_T41 l1 i).f0.f0.toNat).data.toList ++ (rd_T41 l1 i).f1.data.toList) else none) else none) else none) else none) else (if 0 ≤ at_ then (if at_ ≤ (a0.size : Int) then (if b.length + (a0.extract at_.toNat a0.size).size ≤ 140737488355328 then some (⟨(b ++ (a0.extract at_.toNat a0.size).data.toList).toArray⟩, 0) else none) else none) else none)
def edit_Apply.f (k : Nat) (a0 : ByteArray) (l1 : List (S41)) : Option (ByteArray × Int) := if (a0.size : Int) > 65536 then (some ((⟨#[]⟩ : ByteArray), 2)) else ((edit_Check.f k (a0.size : Int) l1).bind fun e => (if e = 0 then ((edit_grown.f k (a0.size : Int) l1).bind fun g => (if g > 65536 then (some ((⟨#[]⟩ : ByteArray), 2)) else (edit_Apply.l0 k a0 l1 0 0 []))) else (some ((⟨#[]⟩ : ByteArray), e))))
theorem edit_Apply.mono_l : ∀ k, (∀ y0 y1 y2 y3 y4, LeO (edit_Apply.l0 k y0 y1 y2 y3 y4) (edit_Apply.l0 (k + 1) y0 y1 y2 y3 y4))
 | 0 => fun _ _ _ _ _ r h => by simp [edit_Apply.l0] at h
 | k + 1 => by
  have ih0 := edit_Apply.mono_l k
  intro y0 y1 y2 y3 y4
  unfold edit_Apply.l0
  repeat' first
   | (with_reducible exact ih0 _ _ _ _ _)
   | (with_reducible exact LeO.refl _)
   | (with_reducible refine LeO.ite ?_ ?_)
theorem edit_Apply.mono : ∀ a0 a1 k, LeO (edit_Apply.f k a0 a1) (edit_Apply.f (k + 1) a0 a1) := by
 intro a0 a1 k
 have ih0 := edit_Apply.mono_l k
 unfold edit_Apply.f
 repeat' first
  | (with_reducible exact ih0 _ _ _ _ _)
  | (with_reducible exact edit_Check.mono _ _ _)
  | (with_reducible exact edit_grown.mono _ _ _)
  | (with_reducible exact LeO.refl _)
  | (with_reducible refine LeO.ite ?_ ?_)
  | (with_reducible refine LeO.bind ?_ (fun _ => ?_))
set_option maxHeartbeats 8000000 in
set_option maxRecDepth 100000 in
theorem edit_Apply.calls (k : Nat) (a0 : ByteArray) (A1 : Option Addr) (c1 : Nat) (l1 : List (S41)) (r1 : ByteArray) (r2 : Int) (w : World) (hr1 : Kd.C k41 w A1 l1.length l1) (hc1 : l1.length ≤ c1) (h : edit_Apply.f k a0 l1 = some (r1, r2)) :
    Calls Try.prog 22 #[.string a0, .slice A1 l1.length c1] w fun e w' => e = .returned (.tuple #[.string r1, .int .i64 r2]) ∧ Below w.heap.size w w' := by
  have HR1 := Aside0.mk hr1
  have HC1 := Aside0.mk hc1
  clear hr1 hc1
  have HB := Aside0.mk (Below.refl w.heap.size w)
  unfold edit_Apply.f at h
  by_cases c0 : (a0.size : Int) > 65536
  · rw [if_pos c0] at h
    have c0b : decide ((a0.size : Int) > 65536) = true := decide_eq_true c0
    clear c0
    simp only [Option.some.injEq, Prod.mk.injEq] at h
    obtain ⟨rfl, rfl⟩ := h
    go_enter Try.func22, Try.ntmps22
    go_wp2
    go_ret2
    exact ⟨rfl, HB.out⟩
  · rw [if_neg c0] at h
    have c0b : decide ((a0.size : Int) > 65536) = false := decide_eq_false c0
    clear c0
    obtain ⟨e1, he1, h⟩ := Option.bind_eq_some_iff.mp h
    have HE1 := Aside0.mk he1
    clear he1
    by_cases c2 : e1 = 0
    · rw [if_pos c2] at h
      have c2b0 : (e1 == 0) = true := beq_iff_eq.mpr c2
      have c2b1 : (e1 != 0) = false := bne_eq_false_iff_eq.mpr c2
      clear c2
      obtain ⟨g1, hg1, h⟩ := Option.bind_eq_some_iff.mp h
      have HG1 := Aside0.mk hg1
      clear hg1
      by_cases c3 : g1 > 65536
      · rw [if_pos c3] at h
        have c3b : decide (g1 > 65536) = true := decide_eq_true c3
        clear c3
        simp only [Option.some.injEq, Prod.mk.injEq] at h
        obtain ⟨rfl, rfl⟩ := h
        go_enter Try.func22, Try.ntmps22
        go_wp2_with (first | (go_at_call 19; (with_reducible refine (edit_Check.calls k _ _ _ l1 e1 _ (pxc HR1 HB) HC1.out HE1.out).mono ?_); rintro e w1 ⟨rfl, hb⟩; have n0_ := pxs HB hb; clear HB; have HB := n0_; clear n0_ hb) | (go_at_call 37; (with_reducible refine (edit_grown.calls k _ _ _ l1 g1 _ (pxc HR1 HB) HC1.out HG1.out).mono ?_); rintro e w2 ⟨rfl, hb⟩; have n0_ := pxs HB hb; clear HB; have HB := n0_; clear n0_ hb))
        go_ret2
        exact ⟨rfl, pxb HB⟩
      · rw [if_neg c3] at h
        have c3b : decide (g1 > 65536) = false := decide_eq_false c3
        clear c3
        have H' := Aside0.mk h
        clear h
        go_enter Try.func22, Try.ntmps22
        go_wp2_with (first | (go_at_call 19; (with_reducible refine (edit_Check.calls k _ _ _ l1 e1 _ (pxc HR1 HB) HC1.out HE1.out).mono ?_); rintro e w1 ⟨rfl, hb⟩; have n0_ := pxs HB hb; clear HB; have HB := n0_; clear n0_ hb) | (go_at_call 37; (with_reducible refine (edit_grown.calls k _ _ _ l1 g1 _ (pxc HR1 HB) HC1.out HG1.out).mono ?_); rintro e w2 ⟨rfl, hb⟩; have n0_ := pxs HB hb; clear HB; have HB := n0_; clear n0_ hb) | ((with_reducible refine gate_dst (N := 7) rfl ?_); refine box_event ?hg (N := 7) ?hd (cs := #[.pointer none, .slice none 0 0]) (t := 77) ?hr ?_; (case hd => rfl); (case hg => rfl); (case hr => first | (go_simp; done) | (go_simp; rfl)); intro gb hg w3 hbox hb; have HBL := Aside0.mk (Bld.fresh (B := w.heap.size) (by rw [hg]; exact (below_size (pxb HB))) hbox); have n0_ := pxs HB hb; clear HB; have HB := n0_; clear n0_ hb hbox hg))
        go_loopg [8, 28] k (fun kq v8 v28 w' => ∃ (at_ i_ : Int) (bs : List UInt8), v8 = .int .i64 at_ ∧ v28 = .int .i64 i_ ∧ Aside0 (edit_Apply.l0 kq a0 l1 i_ at_ bs = some (r1, r2)) ∧ Aside0 (kq ≤ k) ∧ Aside0 (0 ≤ i_) ∧ Aside0 (Lib.IsBuilder 77 5 w.heap.size gb (Lib.byteCells bs) w') ∧ Aside0 (Below w.heap.size w w'))
        case atStart => exact ⟨0, 0, [], rfl, rfl, H', ⟨Nat.le_refl _⟩, ⟨Int.le_refl _⟩, HBL, HB⟩
        case round =>
          clear H' HBL HE1 HG1
          obtain ⟨at_, i_, bs, rfl, rfl, HA, HK1, I0, HBL, HB⟩ := hrel
          have HB0 := HB
          cases gk with
          | zero => exact absurd HA.out (by simp [edit_Apply.l0])
          | succ k1 =>
            have H := HA.out
            clear HA
            rw [edit_Apply.l0] at H
            by_cases c5 : i_ < (l1.length : Int)
            · rw [if_pos c5] at H
              have c5b : decide (i_ < (l1.length : Int)) = true := decide_eq_true c5
              by_cases c6 : 0 ≤ at_
              · rw [if_pos c6] at H
                by_cases c7 : at_ ≤ (rd_T41 l1 i_).f0.f0
                · rw [if_pos c7] at H
                  by_cases c8 : (rd_T41 l1 i_).f0.f0 ≤ (a0.size : Int)
                  · rw [if_pos c8] at H
                    by_cases c9 : bs.length + (a0.extract at_.toNat (rd_T41 l1 i_).f0.f0.toNat).size + (rd_T41 l1 i_).f1.size ≤ 140737488355328
                    · rw [if_pos c9] at H
                      have C9 := Aside0.mk c9
                      clear c9
                      have H' := Aside0.mk H
                      clear H
                      have hlen := HR1.out.2.1
                      obtain ⟨ad, e1_, hx0, hx1, hx2⟩ := at_T41 HR1.out i_ I0.out c5
                      cases e1_
                      replace hx0 := (HB.out.cell (World.block_lt_of_cell? w _ hx0)).trans hx0
                      replace hx1 := (HB.out.cell (World.block_lt_of_cell? w _ hx1)).trans hx1
                      replace hx2 := (HB.out.cell (World.block_lt_of_cell? w _ hx2)).trans hx2
                      have i0 := I0.out
                      have p1 := eq_true I0.out
                      have p2 := eq_true c5
                      have q1 := eq_true c6
                      have q2 := eq_true c7
                      have q3 := eq_true c8
                      have q1b : decide (0 ≤ at_) = true := decide_eq_true c6
                      have q2b : decide (at_ ≤ (rd_T41 l1 i_).f0.f0) = true := decide_eq_true c7
                      have q3b : decide ((rd_T41 l1 i_).f0.f0 ≤ (a0.size : Int)) = true := decide_eq_true c8
                      have C7 := Aside0.mk c7
                      clear c6 c7 c8
                      go_wp2_with ((with_reducible refine gate_dst (N := 10) rfl ?_); refine box_event ?hg (N := 10) ?hd (cs := #[.int .i64 0, .int .i64 0, .string (⟨#[]⟩ : ByteArray)]) (t := 41) ?hr ?_; (case hd => rfl); (case hg => rfl); (case hr => first | (go_simp; done) | (go_simp; rfl)); intro gx hg w4 hbox hb; have BK := Aside0.mk hbox; have HBW := Aside0.mk hb; have n0_ := pxs HB hb; clear HB; have HB := n0_; clear n0_; have GX := Aside0.mk (Nat.le_of_eq hg.symm); have GE := Aside0.mk (Nat.le_trans (below_size (pxb HB0)) GX.out); have NE := Aside0.mk (Nat.ne_of_gt (Nat.lt_of_lt_of_le (Bld.lt HBL.out) GX.out)); clear hb hbox hg; have hcz0 : w4.cell? ⟨gx, 0, none⟩ = some (.int .i64 0) := (blk_cell BK.out 0).trans rfl; have hcz1 : w4.cell? ⟨gx, 1, none⟩ = some (.int .i64 0) := (blk_cell BK.out 1).trans rfl; have hcz2 : w4.cell? ⟨gx, 2, none⟩ = some (.string (⟨#[]⟩ : ByteArray)) := (blk_cell BK.out 2).trans rfl; have hfz0 := blk_frozen BK.out 0; have hfz1 := blk_frozen BK.out 1; have hfz2 := blk_frozen BK.out 2)
                      have BK4 : (((w4.setCell ⟨gx, 0, none⟩ (.int .i64 (rd_T41 l1 i_).f0.f0)).setCell ⟨gx, 1, none⟩ (.int .i64 (rd_T41 l1 i_).f0.f1)).setCell ⟨gx, 2, none⟩ (.string (rd_T41 l1 i_).f1)).heap[gx]? = some (.cells #[.int .i64 (rd_T41 l1 i_).f0.f0, .int .i64 (rd_T41 l1 i_).f0.f1, .string (rd_T41 l1 i_).f1] 41 (0, 0)) := by
                        refine blk_put (cs := #[.int .i64 (rd_T41 l1 i_).f0.f0, .int .i64 (rd_T41 l1 i_).f0.f1, .string (⟨#[]⟩ : ByteArray)]) ?_ 2 _ rfl
                        refine blk_put (cs := #[.int .i64 (rd_T41 l1 i_).f0.f0, .int .i64 0, .string (⟨#[]⟩ : ByteArray)]) ?_ 1 _ rfl
                        refine blk_put (cs := #[.int .i64 0, .int .i64 0, .string (⟨#[]⟩ : ByteArray)]) ?_ 0 _ rfl
                        exact BK.out
                      have HB4 := Aside0.mk (pxb (W := (((w4.setCell ⟨gx, 0, none⟩ (.int .i64 (rd_T41 l1 i_).f0.f0)).setCell ⟨gx, 1, none⟩ (.int .i64 (rd_T41 l1 i_).f0.f1)).setCell ⟨gx, 2, none⟩ (.string (rd_T41 l1 i_).f1))) HB)
                      have HL4 := Aside0.mk (Bld.below HBL.out (pxb (W := (((w4.setCell ⟨gx, 0, none⟩ (.int .i64 (rd_T41 l1 i_).f0.f0)).setCell ⟨gx, 1, none⟩ (.int .i64 (rd_T41 l1 i_).f0.f1)).setCell ⟨gx, 2, none⟩ (.string (rd_T41 l1 i_).f1))) HBW))
                      clear HBL HB0 HB HBW BK hcz0 hcz1 hcz2 hfz0 hfz1 hfz2 hx0 hx1 hx2
                      generalize (((w4.setCell ⟨gx, 0, none⟩ (.int .i64 (rd_T41 l1 i_).f0.f0)).setCell ⟨gx, 1, none⟩ (.int .i64 (rd_T41 l1 i_).f0.f1)).setCell ⟨gx, 2, none⟩ (.string (rd_T41 l1 i_).f1)) = w5 at BK4 HB4 HL4 ⊢
                      refine (Bld.WriteString w.heap.size gb _ _ w5 HL4.out (by rw [Bld.byteCells_length]; have := C9.out; omega) HB4.out.size).mono ?_
                      rintro e w6 ⟨rfl, h6, hb6, hf6⟩
                      rw [Bld.byteCells_append] at h6
                      have BK6 := Aside0.mk (hf6 gx _ _ _ (by decide) NE.out BK4)
                      have HB6 := Aside0.mk (HB4.out.trans hb6)
                      have HL6 := Aside0.mk (show Lib.IsBuilder 77 5 w.heap.size gb _ w6 from .inr h6)
                      clear BK4 HB4 HL4 h6 hb6 hf6
                      have hc60 : w6.cell? ⟨gx, 0, none⟩ = some (.int .i64 (rd_T41 l1 i_).f0.f0) := (blk_cell BK6.out 0).trans rfl
                      have hc61 : w6.cell? ⟨gx, 1, none⟩ = some (.int .i64 (rd_T41 l1 i_).f0.f1) := (blk_cell BK6.out 1).trans rfl
                      have hc62 : w6.cell? ⟨gx, 2, none⟩ = some (.string (rd_T41 l1 i_).f1) := (blk_cell BK6.out 2).trans rfl
                      go_wp2_with fail
                      refine (Bld.WriteString w.heap.size gb _ (rd_T41 l1 i_).f1 w6 HL6.out (by rw [Bld.byteCells_length, List.length_append]; have := C9.out; have e : ∀ s : ByteArray, s.data.toList.length = s.size := (fun s => by simp); rw [e]; omega) HB6.out.size).mono ?_
                      rintro e w7 ⟨rfl, h7, hb7, hf7⟩
                      rw [Bld.byteCells_append] at h7
                      have BK7 := Aside0.mk (hf7 gx _ _ _ (by decide) NE.out BK6.out)
                      have HB7 := Aside0.mk (HB6.out.trans hb7)
                      have HL7 := Aside0.mk (show Lib.IsBuilder 77 5 w.heap.size gb _ w7 from .inr h7)
                      clear BK6 HB6 HL6 h7 hb7 hf7 hc60 hc61 hc62
                      have hc71 : w7.cell? ⟨gx, 1, none⟩ = some (.int .i64 (rd_T41 l1 i_).f0.f1) := (blk_cell BK7.out 1).trans rfl
                      go_wp2_with fail
                      go_roundg k1
                      case measure => have := HK1.out; omega
                      case rel => exact ⟨_, _, _, rfl, rfl, H', ⟨by have := HK1.out; omega⟩, ⟨by have := I0.out; omega⟩, HL7, HB7⟩
                    · rw [if_neg c9] at H
                      cases H
                  · rw [if_neg c8] at H
                    cases H
                · rw [if_neg c7] at H
                  cases H
              · rw [if_neg c6] at H
                cases H
            · rw [if_neg c5] at H
              have c5b : decide (i_ < (l1.length : Int)) = false := decide_eq_false c5
              clear c5
              by_cases c6 : 0 ≤ at_
              · rw [if_pos c6] at H
                by_cases c7 : at_ ≤ (a0.size : Int)
                · rw [if_pos c7] at H
                  by_cases c9 : bs.length + (a0.extract at_.toNat a0.size).size ≤ 140737488355328
                  · rw [if_pos c9] at H
                    simp only [Option.some.injEq, Prod.mk.injEq] at H
                    obtain ⟨rfl, rfl⟩ := H
                    have C9 := Aside0.mk c9
                    clear c9
                    have q1 := eq_true c6
                    have q2 := eq_true c7
                    have q1b : decide (0 ≤ at_) = true := decide_eq_true c6
                    have q2b : decide (at_ ≤ (a0.size : Int)) = true := decide_eq_true c7
                    go_wp2_with fail
                    refine (Bld.WriteString w.heap.size gb _ _ _ HBL.out (by rw [Bld.byteCells_length]; exact C9.out) HB.out.size).mono ?_
                    rintro e w6 ⟨rfl, h6, hb6, hf6⟩
                    rw [Bld.byteCells_append] at h6
                    obtain ⟨bb, hbb⟩ : ∃ bb, bb = bs ++ (a0.extract at_.toNat a0.size).data.toList := ⟨_, rfl⟩
                    rw [← hbb] at h6
                    have HBB := Aside0.mk hbb
                    clear hbb
                    have HB6 := Aside0.mk (HB.out.trans hb6)
                    have HL6 := Aside0.mk (show Lib.IsBuilder 77 5 w.heap.size gb _ w6 from .inr h6)
                    clear HB HBL h6 hb6 hf6
                    go_wp2_with fail
                    refine (Bld.String w.heap.size gb _ w6 HL6.out HB6.out.size).mono ?_
                    rintro e w7 ⟨rfl, hb7⟩
                    have HB7 := Aside0.mk (HB6.out.trans hb7)
                    clear HB6 HL6 hb7
                    go_wp2_with fail
                    go_ret2
                    exact ⟨by rw [← HBB.out]; rfl, pxb HB7⟩
                  · rw [if_neg c9] at H
                    cases H
                · rw [if_neg c7] at H
                  cases H
              · rw [if_neg c6] at H
                cases H
    · rw [if_neg c2] at h
      have c2b0 : (e1 == 0) = false := beq_eq_false_iff_ne.mpr c2
      have c2b1 : (e1 != 0) = true := bne_iff_ne.mpr c2
      clear c2
      simp only [Option.some.injEq, Prod.mk.injEq] at h
      obtain ⟨rfl, rfl⟩ := h
      go_enter Try.func22, Try.ntmps22
      go_wp2_with (first | (go_at_call 19; (with_reducible refine (edit_Check.calls k _ _ _ l1 e1 _ (pxc HR1 HB) HC1.out HE1.out).mono ?_); rintro e w1 ⟨rfl, hb⟩; have n0_ := pxs HB hb; clear HB; have HB := n0_; clear n0_ hb))
      go_ret2
      exact ⟨rfl, pxb HB⟩

end Go.Proofs.Ytoljmjhmieaggaa.X
