/- What the program's functions answer, as Lean functions, and that each call does just that; no condition. Written by a program (px.py) out of the translation. -/
import Derived.Test.YtoljmjhmieaggaaX0
namespace Go.Proofs.Ytoljmjhmieaggaa.X
open Go.RowKit Go.Proofs.YtoljmjhmieaggaaW.PrintWords Go.Proofs.YtoljmjhmieaggaaW.PrintLast Go.Proofs.YtoljmjhmieaggaaW.PrintMore
attribute [local go_sem] max2_int min2_int max_two min_two max_three min_three max_four min_four   -- for this text's walks alone
set_option linter.unusedVariables false
set_option linter.unusedSimpArgs false

/-! ### caulkerref04_Common: function 28 -/
mutual
def caulkerref04_Common.l0 : Nat → ByteArray → ByteArray → List Int → Int → Option (Int)
 | 0, _, _, _, _ => none
 | k + 1, x0, x1, x5, x6 => if x6 ≤ (x1.size : Int) then (if x5.length < 17592186044416 then (caulkerref04_Common.l0 k x0 x1 (x5 ++ [0]) (wrap64 (x6 + 1))) else (none)) else (caulkerref04_Common.l1 k x0 x1 x5 0)
def caulkerref04_Common.l1 : Nat → ByteArray → ByteArray → List Int → Int → Option (Int)
 | 0, _, _, _, _ => none
 | k + 1, x0, x1, x5, x7 => if x7 < (x0.size : Int) then (caulkerref04_Common.l2 k x0 x1 x5 x7 (([0] : List Int)) 0) else (if 0 ≤ (x1.size : Int) then (if (x1.size : Int) < (x5.length : Int) then (some (rd x5 (x1.size : Int))) else (none)) else (none))
def caulkerref04_Common.l2 : Nat → ByteArray → ByteArray → List Int → Int → List Int → Int → Option (Int)
 | 0, _, _, _, _, _, _ => none
 | k + 1, x0, x1, x5, x7, x8, x9 => if x9 < (x1.size : Int) then (if 0 ≤ (wrap64 (x9 + 1)) then (if (wrap64 (x9 + 1)) < (x5.length : Int) then (if 0 ≤ x9 then (if x9 < (x8.length : Int) then (if (rd x8 x9) > (rd x5 (wrap64 (x9 + 1))) then (if 0 ≤ x7 then (if x7 < (x0.size : Int) then (if (bt x0 x7) = (bt x1 x9) then (if x9 < (x5.length : Int) then (if (wrap64 ((rd x5 x9) + 1)) > (rd x8 x9) then (if x8.length < 17592186044416 then (caulkerref04_Common.l2 k x0 x1 x5 x7 (x8 ++ [wrap64 ((rd x5 x9) + 1)]) (wrap64 (x9 + 1))) else (none)) else (if x8.length < 17592186044416 then (caulkerref04_Common.l2 k x0 x1 x5 x7 (x8 ++ [rd x8 x9]) (wrap64 (x9 + 1))) else (none))) else (none)) else (if x8.length < 17592186044416 then (caulkerref04_Common.l2 k x0 x1 x5 x7 (x8 ++ [rd x8 x9]) (wrap64 (x9 + 1))) else (none))) else (none)) else (none)) else (if 0 ≤ x7 then (if x7 < (x0.size : Int) then (if (bt x0 x7) = (bt x1 x9) then (if x9 < (x5.length : Int) then (if (wrap64 ((rd x5 x9) + 1)) > (rd x5 (wrap64 (x9 + 1))) then (if x8.length < 17592186044416 then (caulkerref04_Common.l2 k x0 x1 x5 x7 (x8 ++ [wrap64 ((rd x5 x9) + 1)]) (wrap64 (x9 + 1))) else (none)) else (if x8.length < 17592186044416 then (caulkerref04_Common.l2 k x0 x1 x5 x7 (x8 ++ [rd x5 (wrap64 (x9 + 1))]) (wrap64 (x9 + 1))) else (none))) else (none)) else (if x8.length < 17592186044416 then (caulkerref04_Common.l2 k x0 x1 x5 x7 (x8 ++ [rd x5 (wrap64 (x9 + 1))]) (wrap64 (x9 + 1))) else (none))) else (none)) else (none))) else (none)) else (none)) else (none)) else (none)) else (caulkerref04_Common.l1 k x0 x1 x8 (wrap64 (x7 + 1)))
end
def caulkerref04_Common.f (k : Nat) (a0 : ByteArray) (a1 : ByteArray) : Option (Int) := caulkerref04_Common.l0 k a0 a1 ([] : List Int) 0
theorem caulkerref04_Common.mono_l : ∀ k, (∀ y0 y1 y2 y3, LeO (caulkerref04_Common.l0 k y0 y1 y2 y3) (caulkerref04_Common.l0 (k + 1) y0 y1 y2 y3)) ∧ (∀ y0 y1 y2 y3, LeO (caulkerref04_Common.l1 k y0 y1 y2 y3) (caulkerref04_Common.l1 (k + 1) y0 y1 y2 y3)) ∧ (∀ y0 y1 y2 y3 y4 y5, LeO (caulkerref04_Common.l2 k y0 y1 y2 y3 y4 y5) (caulkerref04_Common.l2 (k + 1) y0 y1 y2 y3 y4 y5))
 | 0 => ⟨fun _ _ _ _ r h => by simp [caulkerref04_Common.l0] at h, fun _ _ _ _ r h => by simp [caulkerref04_Common.l1] at h, fun _ _ _ _ _ _ r h => by simp [caulkerref04_Common.l2] at h⟩
 | k + 1 => by
  obtain ⟨ih0, ih1, ih2⟩ := caulkerref04_Common.mono_l k
  refine ⟨?_, ?_, ?_⟩
  ·intro y0 y1 y2 y3
   unfold caulkerref04_Common.l0
   repeat' first
   | (with_reducible exact ih0 _ _ _ _)
   | (with_reducible exact ih1 _ _ _ _)
   | (with_reducible exact ih2 _ _ _ _ _ _)
   | (with_reducible exact LeO.refl _)
   | (with_reducible exact LeO.none _)
   | (with_reducible refine LeO.ite ?_ ?_)
   | (with_reducible refine LeO.bind ?_ (fun _ => ?_))
   | exact ih0 _ _ _ _
   | exact ih1 _ _ _ _
   | exact ih2 _ _ _ _ _ _
   | exact LeO.none _
   | refine LeO.ite ?_ ?_
   | refine LeO.bind ?_ (fun _ => ?_)
  ·intro y0 y1 y2 y3
   unfold caulkerref04_Common.l1
   repeat' first
   | (with_reducible exact ih0 _ _ _ _)
   | (with_reducible exact ih1 _ _ _ _)
   | (with_reducible exact ih2 _ _ _ _ _ _)
   | (with_reducible exact LeO.refl _)
   | (with_reducible exact LeO.none _)
   | (with_reducible refine LeO.ite ?_ ?_)
   | (with_reducible refine LeO.bind ?_ (fun _ => ?_))
   | exact ih0 _ _ _ _
   | exact ih1 _ _ _ _
   | exact ih2 _ _ _ _ _ _
   | exact LeO.none _
   | refine LeO.ite ?_ ?_
   | refine LeO.bind ?_ (fun _ => ?_)
  ·intro y0 y1 y2 y3 y4 y5
   unfold caulkerref04_Common.l2
   repeat' first
   | (with_reducible exact ih0 _ _ _ _)
   | (with_reducible exact ih1 _ _ _ _)
   | (with_reducible exact ih2 _ _ _ _ _ _)
   | (with_reducible exact LeO.refl _)
   | (with_reducible exact LeO.none _)
   | (with_reducible refine LeO.ite ?_ ?_)
   | (with_reducible refine LeO.bind ?_ (fun _ => ?_))
   | exact ih0 _ _ _ _
   | exact ih1 _ _ _ _
   | exact ih2 _ _ _ _ _ _
   | exact LeO.none _
   | refine LeO.ite ?_ ?_
   | refine LeO.bind ?_ (fun _ => ?_)
theorem caulkerref04_Common.mono : ∀ a0 a1 k, LeO (caulkerref04_Common.f k a0 a1) (caulkerref04_Common.f (k + 1) a0 a1) := by
 intro a0 a1 k
 obtain ⟨ih0, ih1, ih2⟩ := caulkerref04_Common.mono_l k
 unfold caulkerref04_Common.f
 repeat' first
   | (with_reducible exact ih0 _ _ _ _)
   | (with_reducible exact ih1 _ _ _ _)
   | (with_reducible exact ih2 _ _ _ _ _ _)
   | (with_reducible exact LeO.refl _)
   | (with_reducible exact LeO.none _)
   | (with_reducible refine LeO.ite ?_ ?_)
   | (with_reducible refine LeO.bind ?_ (fun _ => ?_))
   | exact ih0 _ _ _ _
   | exact ih1 _ _ _ _
   | exact ih2 _ _ _ _ _ _
   | exact LeO.none _
   | refine LeO.ite ?_ ?_
   | refine LeO.bind ?_ (fun _ => ?_)
set_option maxHeartbeats 8000000 in
set_option maxRecDepth 100000 in
theorem caulkerref04_Common.calls (k : Nat) (a0 : ByteArray) (a1 : ByteArray) (r : Int) (w : World) (h : caulkerref04_Common.f k a0 a1 = some r) :
  Calls Try.prog 28 #[.string a0, .string a1] w fun e w' => e = .returned (.int .i64 r) ∧ Below w.heap.size w w' := by
 have HB := Aside0.mk (Below.refl w.heap.size w)
 have H : (caulkerref04_Common.l0 k a0 a1 ([] : List Int) 0) = some r := h
 clear h
 have H' := Aside0.mk H
 clear H
 go_enter Try.func28, Try.ntmps28
 go_wp2
 repeat (go_quiet (fail); try go_wp2)
 go_loopg [5, 6] k (fun kq v5 v6 w' => ∃ (x5_1 : List Int) (x6_1 : Int), v6 = .int .i64 x6_1 ∧ Aside0 (caulkerref04_Common.l0 kq a0 a1 x5_1 x6_1 = some r) ∧ Aside0 (kq ≤ k) ∧ Aside0 (Kd.R (Kd.int .i64) 3 w' w.heap.size (fun _ => True) v5 x5_1) ∧ Aside0 (Below w.heap.size w w'))
 case atStart => exact ⟨(([] : List Int)), (0), (by first | rfl | (simp; done) | (simp [*]; done)), H', ⟨Nat.le_refl _⟩, ⟨by first | exact Kd.R_nil _ _ _ _ _ | exact Kd.N_nil _ _ _ _ _ | exact Kd.V_nil _ _ _ _ _ | exact Kd.Q_nil _ _ _ _ _ | exact Kd.S_nil _ _ _ _ _⟩, ⟨pxb HB⟩⟩
 case round =>
  clear H'
  try clear c2
  try clear p2
  obtain ⟨x5_1, x6_1, rfl, HA, HK1, HO_5, HB⟩ := hrel
  cases gk with
  | zero => exact absurd HA.out (by simp [caulkerref04_Common.l0])
  | succ k1 =>
   have H := HA.out
   clear HA
   simp only [caulkerref04_Common.l0] at H
   by_cases c3 : x6_1 ≤ (a1.size : Int)
   ·rw [if_pos c3] at H
    have c3b0 : decide (x6_1 ≤ (a1.size : Int)) = true := decide_eq_true c3
    clear c3
    by_cases c4 : x5_1.length < 17592186044416
    ·rw [if_pos c4] at H
     have LMc4 := Aside0.mk c4
     clear c4
     obtain ⟨y278, hy278⟩ : ∃ y_ : List Int, y_ = (x5_1 ++ [0]) := ⟨_, rfl⟩
     replace H : (caulkerref04_Common.l0 k1 a0 a1 y278 (wrap64 (x6_1 + 1))) = some r := by first | (rw [hy278]; with_reducible exact H) | (have H2_ := (Option.bind_some _ _).symm.trans H; rw [hy278]; with_reducible exact H2_) | (have H2_ := (Option.bind_some _ _).symm.trans H; with_reducible exact H2_) | with_reducible exact H | (rw [hy278]; exact H) | exact H
     have Ny278 := Aside0.mk hy278
     clear hy278
     have H' := Aside0.mk H
     clear H
     go_wp2_with (first | ((with_reducible refine gate_builtin (b := .append) (xs := #[.tmp 17, .tmp 18]) rfl ?_); at_builtin; refine Kd.R_append (Kd.int .i64) (w0 := w) w.heap.size rfl (.tmp 17) (.tmp 18) 37 3 (.int .i64 0) 8 rfl Try.underlying37 info3 rfl (by decide) (by omega) u5 x5_1 0 [.int .i64 0] (fun _ => True) (fun _ => False) rfl rfl ?aP (fun _ hk => hk.elim) ?aF ?aO ?aB ?aS ?aL ?_; (case aP => exact rfl); (case aB => exact (pxb HB)); (case aF => exact (fun _ _ => trivial)); (case aO => exact (pxr HO_5)); (case aS => exact (below_size (pxb HB))); (case aL => have := LMc4.out; omega); intro v279 w5 ho hb hg hat; rw [← Ny278.out] at ho; have n0_ := Aside0.mk (hb); have n1_ := Aside0.mk (ho); clear HB; clear HO_5; have HB := n0_; have HO280 := n1_; clear n0_ n1_; clear ho hb hg hat))
     repeat (go_quiet (first | ((with_reducible refine gate_builtin (b := .append) (xs := #[.tmp 17, .tmp 18]) rfl ?_); at_builtin; refine Kd.R_append (Kd.int .i64) (w0 := w) w.heap.size rfl (.tmp 17) (.tmp 18) 37 3 (.int .i64 0) 8 rfl Try.underlying37 info3 rfl (by decide) (by omega) u5 x5_1 0 [.int .i64 0] (fun _ => True) (fun _ => False) rfl rfl ?aP (fun _ hk => hk.elim) ?aF ?aO ?aB ?aS ?aL ?_; (case aP => exact rfl); (case aB => exact (pxb HB)); (case aF => exact (fun _ _ => trivial)); (case aO => exact (pxr HO_5)); (case aS => exact (below_size (pxb HB))); (case aL => have := LMc4.out; omega); intro v279 w5 ho hb hg hat; rw [← Ny278.out] at ho; have n0_ := Aside0.mk (hb); have n1_ := Aside0.mk (ho); clear HB; clear HO_5; have HB := n0_; have HO280 := n1_; clear n0_ n1_; clear ho hb hg hat)); try go_wp2_with (first | ((with_reducible refine gate_builtin (b := .append) (xs := #[.tmp 17, .tmp 18]) rfl ?_); at_builtin; refine Kd.R_append (Kd.int .i64) (w0 := w) w.heap.size rfl (.tmp 17) (.tmp 18) 37 3 (.int .i64 0) 8 rfl Try.underlying37 info3 rfl (by decide) (by omega) u5 x5_1 0 [.int .i64 0] (fun _ => True) (fun _ => False) rfl rfl ?aP (fun _ hk => hk.elim) ?aF ?aO ?aB ?aS ?aL ?_; (case aP => exact rfl); (case aB => exact (pxb HB)); (case aF => exact (fun _ _ => trivial)); (case aO => exact (pxr HO_5)); (case aS => exact (below_size (pxb HB))); (case aL => have := LMc4.out; omega); intro v279 w5 ho hb hg hat; rw [← Ny278.out] at ho; have n0_ := Aside0.mk (hb); have n1_ := Aside0.mk (ho); clear HB; clear HO_5; have HB := n0_; have HO280 := n1_; clear n0_ n1_; clear ho hb hg hat)))
     go_roundg k1
     case measure => have := HK1.out; omega
     case rel => exact ⟨(y278), (wrap64 (x6_1 + 1)), (by first | rfl | (simp; done) | (simp [*]; done)), H', ⟨by have := HK1.out; omega⟩, ⟨pxr HO280⟩, ⟨pxb HB⟩⟩
    ·rw [if_neg c4] at H
     exact absurd H (by simp)
   ·rw [if_neg c3] at H
    have c3b0 : decide (x6_1 ≤ (a1.size : Int)) = false := decide_eq_false c3
    clear c3
    have H' := Aside0.mk H
    clear H
    go_wp2
    repeat (go_quiet (fail); try go_wp2)
    go_loopg [5, 7] k1 (fun kq v5 v7 w' => ∃ (x5_2 : List Int) (x7_2 : Int), v7 = .int .i64 x7_2 ∧ Aside0 (caulkerref04_Common.l1 kq a0 a1 x5_2 x7_2 = some r) ∧ Aside0 (kq ≤ k1) ∧ Aside0 (Kd.R (Kd.int .i64) 3 w' w.heap.size (fun _ => True) v5 x5_2) ∧ Aside0 (Below w.heap.size w w'))
    case atStart => exact ⟨(x5_1), (0), (by first | rfl | (simp; done) | (simp [*]; done)), H', ⟨Nat.le_refl _⟩, ⟨pxr HO_5⟩, ⟨pxb HB⟩⟩
    case round =>
     clear H'
     try clear c2
     try clear p2
     try clear c3
     try clear c3b0
     try clear c4
     try clear p2
     obtain ⟨x5_2, x7_2, rfl, HA, HK2, HO_5, HB⟩ := hrel
     cases gk with
     | zero => exact absurd HA.out (by simp [caulkerref04_Common.l1])
     | succ k2 =>
      have H := HA.out
      clear HA
      simp only [caulkerref04_Common.l1] at H
      by_cases c6 : x7_2 < (a0.size : Int)
      ·rw [if_pos c6] at H
       have c6b0 : decide (x7_2 < (a0.size : Int)) = true := decide_eq_true c6
       clear c6
       obtain ⟨y282, hy282⟩ : ∃ y_ : List Int, y_ = (([0] : List Int)) := ⟨_, rfl⟩
       replace H : (caulkerref04_Common.l2 k2 a0 a1 x5_2 x7_2 y282 0) = some r := by first | (rw [hy282]; with_reducible exact H) | (have H2_ := (Option.bind_some _ _).symm.trans H; rw [hy282]; with_reducible exact H2_) | (have H2_ := (Option.bind_some _ _).symm.trans H; with_reducible exact H2_) | with_reducible exact H | (rw [hy282]; exact H) | exact H
       have Ny282 := Aside0.mk hy282
       clear hy282
       have H' := Aside0.mk H
       clear H
       go_wp2_with (first | ((with_reducible refine gate_dst (N := 26) rfl ?_); refine Kd.R_lit (Kd.int .i64) _ 3 ?hg (N := 26) ?hd (xs := ([0] : List Int)) (inner := [.int .i64 0]) (ok := fun _ => True) (okp := fun _ => True) ?hr ?hp (fun _ hk => hk) trivial (Below.refl _ _) (Nat.le_refl _) (by simp) ?_; (case hd => rfl); (case hg => rfl); (case hr => first | (go_simp; done) | (go_simp; rfl)); (case hp => exact (Reps.one (show Kd.M (Kd.int .i64) _ _ _ 0 [.int .i64 0] from rfl) (Reps.none _ _))); intro v283 w7 ho8 hb hg_ hnew_; clear hg_ hnew_; (first | rw [← Ny282.out] at ho8 | (simp only [Int.reduceToNat] at ho8; rw [← Ny282.out] at ho8)); have n0_ := Aside0.mk (Kd.R_elder' (pxr HO_5) (Kd.R_base ho8) hb); have n1_ := Aside0.mk (Kd.R_lower (Kd.R_new' ho8 (Kd.R_lt (pxr HO_5))) (below_size (pxb HB))); have n2_ := pxs HB hb; clear HO_5; clear HB; have HO_5 := n0_; have HO284 := n1_; have HB := n2_; clear n0_ n1_ n2_; clear hb ho8))
       repeat (go_quiet (first | ((with_reducible refine gate_dst (N := 26) rfl ?_); refine Kd.R_lit (Kd.int .i64) _ 3 ?hg (N := 26) ?hd (xs := ([0] : List Int)) (inner := [.int .i64 0]) (ok := fun _ => True) (okp := fun _ => True) ?hr ?hp (fun _ hk => hk) trivial (Below.refl _ _) (Nat.le_refl _) (by simp) ?_; (case hd => rfl); (case hg => rfl); (case hr => first | (go_simp; done) | (go_simp; rfl)); (case hp => exact (Reps.one (show Kd.M (Kd.int .i64) _ _ _ 0 [.int .i64 0] from rfl) (Reps.none _ _))); intro v283 w7 ho8 hb hg_ hnew_; clear hg_ hnew_; (first | rw [← Ny282.out] at ho8 | (simp only [Int.reduceToNat] at ho8; rw [← Ny282.out] at ho8)); have n0_ := Aside0.mk (Kd.R_elder' (pxr HO_5) (Kd.R_base ho8) hb); have n1_ := Aside0.mk (Kd.R_lower (Kd.R_new' ho8 (Kd.R_lt (pxr HO_5))) (below_size (pxb HB))); have n2_ := pxs HB hb; clear HO_5; clear HB; have HO_5 := n0_; have HO284 := n1_; have HB := n2_; clear n0_ n1_ n2_; clear hb ho8)); try go_wp2_with (first | ((with_reducible refine gate_dst (N := 26) rfl ?_); refine Kd.R_lit (Kd.int .i64) _ 3 ?hg (N := 26) ?hd (xs := ([0] : List Int)) (inner := [.int .i64 0]) (ok := fun _ => True) (okp := fun _ => True) ?hr ?hp (fun _ hk => hk) trivial (Below.refl _ _) (Nat.le_refl _) (by simp) ?_; (case hd => rfl); (case hg => rfl); (case hr => first | (go_simp; done) | (go_simp; rfl)); (case hp => exact (Reps.one (show Kd.M (Kd.int .i64) _ _ _ 0 [.int .i64 0] from rfl) (Reps.none _ _))); intro v283 w7 ho8 hb hg_ hnew_; clear hg_ hnew_; (first | rw [← Ny282.out] at ho8 | (simp only [Int.reduceToNat] at ho8; rw [← Ny282.out] at ho8)); have n0_ := Aside0.mk (Kd.R_elder' (pxr HO_5) (Kd.R_base ho8) hb); have n1_ := Aside0.mk (Kd.R_lower (Kd.R_new' ho8 (Kd.R_lt (pxr HO_5))) (below_size (pxb HB))); have n2_ := pxs HB hb; clear HO_5; clear HB; have HO_5 := n0_; have HO284 := n1_; have HB := n2_; clear n0_ n1_ n2_; clear hb ho8)))
       go_loopg [8, 9] k2 (fun kq v8 v9 w' => ∃ (x8_3 : List Int) (x9_3 : Int), v9 = .int .i64 x9_3 ∧ Aside0 (caulkerref04_Common.l2 kq a0 a1 x5_2 x7_2 x8_3 x9_3 = some r) ∧ Aside0 (kq ≤ k2) ∧ Aside0 (Kd.R (Kd.int .i64) 3 w' w.heap.size (fun k_ => some k_ ≠ (v8 : Value).ownBlock) u5 x5_2) ∧ Aside0 (Kd.R (Kd.int .i64) 3 w' w.heap.size (fun k_ => some k_ ≠ (u5 : Value).ownBlock) v8 x8_3) ∧ Aside0 (Below w.heap.size w w'))
       case atStart => exact ⟨(y282), (0), (by first | rfl | (simp; done) | (simp [*]; done)), H', ⟨Nat.le_refl _⟩, ⟨by (with_reducible repeat (first | apply Kd.R_alloc | apply Kd.R_drewN | apply Kd.R_drew)); exact Kd.R_mono HO_5.out (fun _ hk => hk.2)⟩, ⟨by (with_reducible repeat (first | apply Kd.R_alloc | apply Kd.R_drewN | apply Kd.R_drew)); exact Kd.R_mono HO284.out (fun _ hk => hk.2)⟩, ⟨pxb HB⟩⟩
       case round =>
        clear H'
        try clear c2
        try clear p2
        try clear c3
        try clear c3b0
        try clear c4
        try clear c6
        try clear c6b0
        try clear p6
        try clear p2
        obtain ⟨x8_3, x9_3, rfl, HA, HK3, HO_5, HO_8, HB⟩ := hrel
        cases gk with
        | zero => exact absurd HA.out (by simp [caulkerref04_Common.l2])
        | succ k3 =>
         have H := HA.out
         clear HA
         simp only [caulkerref04_Common.l2] at H
         by_cases c9 : x9_3 < (a1.size : Int)
         ·rw [if_pos c9] at H
          have c9b0 : decide (x9_3 < (a1.size : Int)) = true := decide_eq_true c9
          clear c9
          obtain ⟨ji10, hji10⟩ : ∃ j_ : Int, (wrap64 (x9_3 + 1)) = j_ := ⟨_, rfl⟩
          replace H : (if 0 ≤ (ji10) then (if (ji10) < (x5_2.length : Int) then (if 0 ≤ x9_3 then (if x9_3 < (x8_3.length : Int) then (if (rd x8_3 x9_3) > (rd x5_2 (ji10)) then (if 0 ≤ x7_2 then (if x7_2 < (a0.size : Int) then (if (bt a0 x7_2) = (bt a1 x9_3) then (if x9_3 < (x5_2.length : Int) then (if (wrap64 ((rd x5_2 x9_3) + 1)) > (rd x8_3 x9_3) then (if x8_3.length < 17592186044416 then (caulkerref04_Common.l2 k3 a0 a1 x5_2 x7_2 (x8_3 ++ [wrap64 ((rd x5_2 x9_3) + 1)]) ji10) else (none)) else (if x8_3.length < 17592186044416 then (caulkerref04_Common.l2 k3 a0 a1 x5_2 x7_2 (x8_3 ++ [rd x8_3 x9_3]) ji10) else (none))) else (none)) else (if x8_3.length < 17592186044416 then (caulkerref04_Common.l2 k3 a0 a1 x5_2 x7_2 (x8_3 ++ [rd x8_3 x9_3]) ji10) else (none))) else (none)) else (none)) else (if 0 ≤ x7_2 then (if x7_2 < (a0.size : Int) then (if (bt a0 x7_2) = (bt a1 x9_3) then (if x9_3 < (x5_2.length : Int) then (if (wrap64 ((rd x5_2 x9_3) + 1)) > (rd x5_2 (ji10)) then (if x8_3.length < 17592186044416 then (caulkerref04_Common.l2 k3 a0 a1 x5_2 x7_2 (x8_3 ++ [wrap64 ((rd x5_2 x9_3) + 1)]) ji10) else (none)) else (if x8_3.length < 17592186044416 then (caulkerref04_Common.l2 k3 a0 a1 x5_2 x7_2 (x8_3 ++ [rd x5_2 (ji10)]) ji10) else (none))) else (none)) else (if x8_3.length < 17592186044416 then (caulkerref04_Common.l2 k3 a0 a1 x5_2 x7_2 (x8_3 ++ [rd x5_2 (ji10)]) ji10) else (none))) else (none)) else (none))) else (none)) else (none)) else (none)) else (none)) = some r := by first | (rw [hji10] at H; exact H) | (simp only [hji10] at H ⊢; exact H)
          have hji10w : (IntKind.i64.wrap (x9_3 + 1)) = ji10 := (i64_w _).trans hji10
          by_cases c11 : 0 ≤ (ji10)
          ·rw [if_pos c11] at H
           have c11b0 : decide (0 ≤ (ji10)) = true := decide_eq_true c11
           clear c11
           by_cases c12 : (ji10) < (x5_2.length : Int)
           ·rw [if_pos c12] at H
            have c12b0 : decide ((ji10) < (x5_2.length : Int)) = true := decide_eq_true c12
            clear c12
            by_cases c13 : 0 ≤ x9_3
            ·rw [if_pos c13] at H
             have c13b0 : decide (0 ≤ x9_3) = true := decide_eq_true c13
             clear c13
             by_cases c14 : x9_3 < (x8_3.length : Int)
             ·rw [if_pos c14] at H
              have c14b0 : decide (x9_3 < (x8_3.length : Int)) = true := decide_eq_true c14
              clear c14
              by_cases c15 : (rd x8_3 x9_3) > (rd x5_2 (ji10))
              ·rw [if_pos c15] at H
               have c15b0 : decide ((rd x5_2 (ji10)) < (rd x8_3 x9_3)) = true := decide_eq_true c15
               clear c15
               by_cases c16 : 0 ≤ x7_2
               ·rw [if_pos c16] at H
                have c16b0 : decide (0 ≤ x7_2) = true := decide_eq_true c16
                clear c16
                by_cases c17 : x7_2 < (a0.size : Int)
                ·rw [if_pos c17] at H
                 have c17b0 : decide (x7_2 < (a0.size : Int)) = true := decide_eq_true c17
                 clear c17
                 by_cases c20 : (bt a0 x7_2) = (bt a1 x9_3)
                 ·rw [if_pos c20] at H
                  have c20b0 : ((bt a0 x7_2) == (bt a1 x9_3)) = true := beq_iff_eq.mpr c20
                  have c20b1 : ((bt a0 x7_2) != (bt a1 x9_3)) = false := bne_eq_false_iff_eq.mpr c20
                  clear c20
                  by_cases c21 : x9_3 < (x5_2.length : Int)
                  ·rw [if_pos c21] at H
                   have c21b0 : decide (x9_3 < (x5_2.length : Int)) = true := decide_eq_true c21
                   clear c21
                   by_cases c22 : (wrap64 ((rd x5_2 x9_3) + 1)) > (rd x8_3 x9_3)
                   ·rw [if_pos c22] at H
                    have c22b0 : decide ((rd x8_3 x9_3) < (wrap64 ((rd x5_2 x9_3) + 1))) = true := decide_eq_true c22
                    clear c22
                    by_cases c23 : x8_3.length < 17592186044416
                    ·rw [if_pos c23] at H
                     have LMc23 := Aside0.mk c23
                     clear c23
                     obtain ⟨y290, hy290⟩ : ∃ y_ : List Int, y_ = (x8_3 ++ [wrap64 ((rd x5_2 x9_3) + 1)]) := ⟨_, rfl⟩
                     replace H : (caulkerref04_Common.l2 k3 a0 a1 x5_2 x7_2 y290 ji10) = some r := by first | (rw [hy290]; with_reducible exact H) | (have H2_ := (Option.bind_some _ _).symm.trans H; rw [hy290]; with_reducible exact H2_) | (have H2_ := (Option.bind_some _ _).symm.trans H; with_reducible exact H2_) | with_reducible exact H | (rw [hy290]; exact H) | exact H
                     have Ny290 := Aside0.mk hy290
                     clear hy290
                     have H' := Aside0.mk H
                     clear H
                     obtain ⟨Ao24, co24, eo24⟩ := Kd.R_slice HO_5.out
                     subst eo24
                     have p285 : 0 ≤ ((ji10) : Int) := of_decide_eq_true (by first | (with_reducible assumption) | assumption)
                     have q285 : (ji10) < (x5_2.length : Int) := of_decide_eq_true (by first | (with_reducible assumption) | assumption)
                     obtain ⟨ad285, e285, hx285_0⟩ := Kd.at_int (Kd.R_reads' HO_5.out).2.2 (ji10) p285 q285
                     cases e285
                     replace p285 := eq_true p285
                     replace q285 := eq_true q285
                     obtain ⟨Ao25, co25, eo25⟩ := Kd.R_slice HO_8.out
                     subst eo25
                     have p286 : 0 ≤ (x9_3 : Int) := of_decide_eq_true (by first | (with_reducible assumption) | assumption)
                     have q286 : x9_3 < (x8_3.length : Int) := of_decide_eq_true (by first | (with_reducible assumption) | assumption)
                     obtain ⟨ad286, e286, hx286_0⟩ := Kd.at_int (Kd.R_reads' HO_8.out).2.2 x9_3 p286 q286
                     cases e286
                     replace p286 := eq_true p286
                     replace q286 := eq_true q286
                     have p287 : 0 ≤ (x9_3 : Int) := of_decide_eq_true (by first | (with_reducible assumption) | assumption)
                     have q287 : x9_3 < (x8_3.length : Int) := of_decide_eq_true (by first | (with_reducible assumption) | assumption)
                     obtain ⟨ad287, e287, hx287_0⟩ := Kd.at_int (Kd.R_reads' HO_8.out).2.2 x9_3 p287 q287
                     obtain rfl : ad286 = ad287 := (by injection e287)
                     replace p287 := eq_true p287
                     replace q287 := eq_true q287
                     have p18 : 0 ≤ (x7_2 : Int) := of_decide_eq_true (by first | (with_reducible assumption) | assumption)
                     have q18 : x7_2 < (a0.size : Int) := of_decide_eq_true (by first | (with_reducible assumption) | assumption)
                     have hx18 := bt_at a0 x7_2
                     replace p18 := eq_true p18
                     replace q18 := eq_true q18
                     have p19 : 0 ≤ (x9_3 : Int) := of_decide_eq_true (by first | (with_reducible assumption) | assumption)
                     have q19 : x9_3 < (a1.size : Int) := of_decide_eq_true (by first | (with_reducible assumption) | assumption)
                     have hx19 := bt_at a1 x9_3
                     replace p19 := eq_true p19
                     replace q19 := eq_true q19
                     have p288 : 0 ≤ (x9_3 : Int) := of_decide_eq_true (by first | (with_reducible assumption) | assumption)
                     have q288 : x9_3 < (x5_2.length : Int) := of_decide_eq_true (by first | (with_reducible assumption) | assumption)
                     obtain ⟨ad288, e288, hx288_0⟩ := Kd.at_int (Kd.R_reads' HO_5.out).2.2 x9_3 p288 q288
                     obtain rfl : ad285 = ad288 := (by injection e288)
                     replace p288 := eq_true p288
                     replace q288 := eq_true q288
                     have p289 : 0 ≤ (x9_3 : Int) := of_decide_eq_true (by first | (with_reducible assumption) | assumption)
                     have q289 : x9_3 < (x5_2.length : Int) := of_decide_eq_true (by first | (with_reducible assumption) | assumption)
                     obtain ⟨ad289, e289, hx289_0⟩ := Kd.at_int (Kd.R_reads' HO_5.out).2.2 x9_3 p289 q289
                     obtain rfl : ad285 = ad289 := (by injection e289)
                     replace p289 := eq_true p289
                     replace q289 := eq_true q289
                     go_wp2_with (first | ((with_reducible refine gate_builtin (b := .append) (xs := #[.tmp 69, .tmp 71]) rfl ?_); at_builtin; refine Kd.R_append (Kd.int .i64) (w0 := w) w.heap.size rfl (.tmp 69) (.tmp 71) 37 3 (.int .i64 0) 8 rfl Try.underlying37 info3 rfl (by decide) (by omega) (.slice (some ad286) x8_3.length co25) x8_3 (wrap64 ((rd x5_2 x9_3) + 1)) [.int .i64 (wrap64 ((rd x5_2 x9_3) + 1))] (fun k_ => some k_ ≠ (.slice (some ad285) x5_2.length co24 : Value).ownBlock) (fun _ => False) rfl rfl ?aP (fun _ hk => hk.elim) ?aF ?aO ?aB ?aS ?aL ?_; (case aP => exact rfl); (case aB => exact (pxb HB)); (case aF => exact (fun k_ hk => Kd.fresh' (Kd.R_lt (pxr HO_5)) k_ hk)); (case aO => exact (pxr HO_8)); (case aS => exact (below_size (pxb HB))); (case aL => have := LMc23.out; omega); intro v291 w26 ho hb hg hat; rw [← Ny290.out] at ho; have n0_ := Aside0.mk (Kd.R_after (ok := (fun _ => True)) (by (with_reducible repeat (first | apply Kd.R_alloc | apply Kd.R_drewN | apply Kd.R_drew)); exact Kd.R_mono HO_5.out (fun _ hk => ⟨trivial, hk⟩)) hg hat); have n1_ := Aside0.mk (hb); have n2_ := Aside0.mk (ho); clear HO_5; clear HB; clear HO_8; have HO_5 := n0_; have HB := n1_; have HO292 := n2_; clear n0_ n1_ n2_; clear ho hb hg hat))
                     repeat (go_quiet (first | ((with_reducible refine gate_builtin (b := .append) (xs := #[.tmp 69, .tmp 71]) rfl ?_); at_builtin; refine Kd.R_append (Kd.int .i64) (w0 := w) w.heap.size rfl (.tmp 69) (.tmp 71) 37 3 (.int .i64 0) 8 rfl Try.underlying37 info3 rfl (by decide) (by omega) (.slice (some ad286) x8_3.length co25) x8_3 (wrap64 ((rd x5_2 x9_3) + 1)) [.int .i64 (wrap64 ((rd x5_2 x9_3) + 1))] (fun k_ => some k_ ≠ (.slice (some ad285) x5_2.length co24 : Value).ownBlock) (fun _ => False) rfl rfl ?aP (fun _ hk => hk.elim) ?aF ?aO ?aB ?aS ?aL ?_; (case aP => exact rfl); (case aB => exact (pxb HB)); (case aF => exact (fun k_ hk => Kd.fresh' (Kd.R_lt (pxr HO_5)) k_ hk)); (case aO => exact (pxr HO_8)); (case aS => exact (below_size (pxb HB))); (case aL => have := LMc23.out; omega); intro v291 w26 ho hb hg hat; rw [← Ny290.out] at ho; have n0_ := Aside0.mk (Kd.R_after (ok := (fun _ => True)) (by (with_reducible repeat (first | apply Kd.R_alloc | apply Kd.R_drewN | apply Kd.R_drew)); exact Kd.R_mono HO_5.out (fun _ hk => ⟨trivial, hk⟩)) hg hat); have n1_ := Aside0.mk (hb); have n2_ := Aside0.mk (ho); clear HO_5; clear HB; clear HO_8; have HO_5 := n0_; have HB := n1_; have HO292 := n2_; clear n0_ n1_ n2_; clear ho hb hg hat)); try go_wp2_with (first | ((with_reducible refine gate_builtin (b := .append) (xs := #[.tmp 69, .tmp 71]) rfl ?_); at_builtin; refine Kd.R_append (Kd.int .i64) (w0 := w) w.heap.size rfl (.tmp 69) (.tmp 71) 37 3 (.int .i64 0) 8 rfl Try.underlying37 info3 rfl (by decide) (by omega) (.slice (some ad286) x8_3.length co25) x8_3 (wrap64 ((rd x5_2 x9_3) + 1)) [.int .i64 (wrap64 ((rd x5_2 x9_3) + 1))] (fun k_ => some k_ ≠ (.slice (some ad285) x5_2.length co24 : Value).ownBlock) (fun _ => False) rfl rfl ?aP (fun _ hk => hk.elim) ?aF ?aO ?aB ?aS ?aL ?_; (case aP => exact rfl); (case aB => exact (pxb HB)); (case aF => exact (fun k_ hk => Kd.fresh' (Kd.R_lt (pxr HO_5)) k_ hk)); (case aO => exact (pxr HO_8)); (case aS => exact (below_size (pxb HB))); (case aL => have := LMc23.out; omega); intro v291 w26 ho hb hg hat; rw [← Ny290.out] at ho; have n0_ := Aside0.mk (Kd.R_after (ok := (fun _ => True)) (by (with_reducible repeat (first | apply Kd.R_alloc | apply Kd.R_drewN | apply Kd.R_drew)); exact Kd.R_mono HO_5.out (fun _ hk => ⟨trivial, hk⟩)) hg hat); have n1_ := Aside0.mk (hb); have n2_ := Aside0.mk (ho); clear HO_5; clear HB; clear HO_8; have HO_5 := n0_; have HB := n1_; have HO292 := n2_; clear n0_ n1_ n2_; clear ho hb hg hat)))
                     go_roundg k3
                     case measure => have := HK1.out; have := HK2.out; have := HK3.out; omega
                     case rel => exact ⟨(y290), (ji10), (by first | rfl | (simp; done) | (simp only [← hji10] <;> (first | rfl | simp)) | (simp [*]; done)), H', ⟨by have := HK1.out; have := HK2.out; have := HK3.out; omega⟩, ⟨by (with_reducible repeat (first | apply Kd.R_alloc | apply Kd.R_drewN | apply Kd.R_drew)); exact Kd.R_mono HO_5.out (fun _ hk => hk.2)⟩, ⟨pxr HO292⟩, ⟨pxb HB⟩⟩
                    ·rw [if_neg c23] at H
                     exact absurd H (by simp)
                   ·rw [if_neg c22] at H
                    have c22b0 : decide ((rd x8_3 x9_3) < (wrap64 ((rd x5_2 x9_3) + 1))) = false := decide_eq_false c22
                    clear c22
                    by_cases c27 : x8_3.length < 17592186044416
                    ·rw [if_pos c27] at H
                     have LMc27 := Aside0.mk c27
                     clear c27
                     obtain ⟨y293, hy293⟩ : ∃ y_ : List Int, y_ = (x8_3 ++ [rd x8_3 x9_3]) := ⟨_, rfl⟩
                     replace H : (caulkerref04_Common.l2 k3 a0 a1 x5_2 x7_2 y293 ji10) = some r := by first | (rw [hy293]; with_reducible exact H) | (have H2_ := (Option.bind_some _ _).symm.trans H; rw [hy293]; with_reducible exact H2_) | (have H2_ := (Option.bind_some _ _).symm.trans H; with_reducible exact H2_) | with_reducible exact H | (rw [hy293]; exact H) | exact H
                     have Ny293 := Aside0.mk hy293
                     clear hy293
                     have H' := Aside0.mk H
                     clear H
                     obtain ⟨Ao28, co28, eo28⟩ := Kd.R_slice HO_5.out
                     subst eo28
                     have p285 : 0 ≤ ((ji10) : Int) := of_decide_eq_true (by first | (with_reducible assumption) | assumption)
                     have q285 : (ji10) < (x5_2.length : Int) := of_decide_eq_true (by first | (with_reducible assumption) | assumption)
                     obtain ⟨ad285, e285, hx285_0⟩ := Kd.at_int (Kd.R_reads' HO_5.out).2.2 (ji10) p285 q285
                     cases e285
                     replace p285 := eq_true p285
                     replace q285 := eq_true q285
                     obtain ⟨Ao29, co29, eo29⟩ := Kd.R_slice HO_8.out
                     subst eo29
                     have p286 : 0 ≤ (x9_3 : Int) := of_decide_eq_true (by first | (with_reducible assumption) | assumption)
                     have q286 : x9_3 < (x8_3.length : Int) := of_decide_eq_true (by first | (with_reducible assumption) | assumption)
                     obtain ⟨ad286, e286, hx286_0⟩ := Kd.at_int (Kd.R_reads' HO_8.out).2.2 x9_3 p286 q286
                     cases e286
                     replace p286 := eq_true p286
                     replace q286 := eq_true q286
                     have p287 : 0 ≤ (x9_3 : Int) := of_decide_eq_true (by first | (with_reducible assumption) | assumption)
                     have q287 : x9_3 < (x8_3.length : Int) := of_decide_eq_true (by first | (with_reducible assumption) | assumption)
                     obtain ⟨ad287, e287, hx287_0⟩ := Kd.at_int (Kd.R_reads' HO_8.out).2.2 x9_3 p287 q287
                     obtain rfl : ad286 = ad287 := (by injection e287)
                     replace p287 := eq_true p287
                     replace q287 := eq_true q287
                     have p18 : 0 ≤ (x7_2 : Int) := of_decide_eq_true (by first | (with_reducible assumption) | assumption)
                     have q18 : x7_2 < (a0.size : Int) := of_decide_eq_true (by first | (with_reducible assumption) | assumption)
                     have hx18 := bt_at a0 x7_2
                     replace p18 := eq_true p18
                     replace q18 := eq_true q18
                     have p19 : 0 ≤ (x9_3 : Int) := of_decide_eq_true (by first | (with_reducible assumption) | assumption)
                     have q19 : x9_3 < (a1.size : Int) := of_decide_eq_true (by first | (with_reducible assumption) | assumption)
                     have hx19 := bt_at a1 x9_3
                     replace p19 := eq_true p19
                     replace q19 := eq_true q19
                     have p288 : 0 ≤ (x9_3 : Int) := of_decide_eq_true (by first | (with_reducible assumption) | assumption)
                     have q288 : x9_3 < (x5_2.length : Int) := of_decide_eq_true (by first | (with_reducible assumption) | assumption)
                     obtain ⟨ad288, e288, hx288_0⟩ := Kd.at_int (Kd.R_reads' HO_5.out).2.2 x9_3 p288 q288
                     obtain rfl : ad285 = ad288 := (by injection e288)
                     replace p288 := eq_true p288
                     replace q288 := eq_true q288
                     go_wp2_with (first | ((with_reducible refine gate_builtin (b := .append) (xs := #[.tmp 69, .tmp 71]) rfl ?_); at_builtin; refine Kd.R_append (Kd.int .i64) (w0 := w) w.heap.size rfl (.tmp 69) (.tmp 71) 37 3 (.int .i64 0) 8 rfl Try.underlying37 info3 rfl (by decide) (by omega) (.slice (some ad286) x8_3.length co29) x8_3 (rd x8_3 x9_3) [.int .i64 (rd x8_3 x9_3)] (fun k_ => some k_ ≠ (.slice (some ad285) x5_2.length co28 : Value).ownBlock) (fun _ => False) rfl rfl ?aP (fun _ hk => hk.elim) ?aF ?aO ?aB ?aS ?aL ?_; (case aP => exact rfl); (case aB => exact (pxb HB)); (case aF => exact (fun k_ hk => Kd.fresh' (Kd.R_lt (pxr HO_5)) k_ hk)); (case aO => exact (pxr HO_8)); (case aS => exact (below_size (pxb HB))); (case aL => have := LMc27.out; omega); intro v294 w30 ho hb hg hat; rw [← Ny293.out] at ho; have n0_ := Aside0.mk (Kd.R_after (ok := (fun _ => True)) (by (with_reducible repeat (first | apply Kd.R_alloc | apply Kd.R_drewN | apply Kd.R_drew)); exact Kd.R_mono HO_5.out (fun _ hk => ⟨trivial, hk⟩)) hg hat); have n1_ := Aside0.mk (hb); have n2_ := Aside0.mk (ho); clear HO_5; clear HB; clear HO_8; have HO_5 := n0_; have HB := n1_; have HO295 := n2_; clear n0_ n1_ n2_; clear ho hb hg hat))
                     repeat (go_quiet (first | ((with_reducible refine gate_builtin (b := .append) (xs := #[.tmp 69, .tmp 71]) rfl ?_); at_builtin; refine Kd.R_append (Kd.int .i64) (w0 := w) w.heap.size rfl (.tmp 69) (.tmp 71) 37 3 (.int .i64 0) 8 rfl Try.underlying37 info3 rfl (by decide) (by omega) (.slice (some ad286) x8_3.length co29) x8_3 (rd x8_3 x9_3) [.int .i64 (rd x8_3 x9_3)] (fun k_ => some k_ ≠ (.slice (some ad285) x5_2.length co28 : Value).ownBlock) (fun _ => False) rfl rfl ?aP (fun _ hk => hk.elim) ?aF ?aO ?aB ?aS ?aL ?_; (case aP => exact rfl); (case aB => exact (pxb HB)); (case aF => exact (fun k_ hk => Kd.fresh' (Kd.R_lt (pxr HO_5)) k_ hk)); (case aO => exact (pxr HO_8)); (case aS => exact (below_size (pxb HB))); (case aL => have := LMc27.out; omega); intro v294 w30 ho hb hg hat; rw [← Ny293.out] at ho; have n0_ := Aside0.mk (Kd.R_after (ok := (fun _ => True)) (by (with_reducible repeat (first | apply Kd.R_alloc | apply Kd.R_drewN | apply Kd.R_drew)); exact Kd.R_mono HO_5.out (fun _ hk => ⟨trivial, hk⟩)) hg hat); have n1_ := Aside0.mk (hb); have n2_ := Aside0.mk (ho); clear HO_5; clear HB; clear HO_8; have HO_5 := n0_; have HB := n1_; have HO295 := n2_; clear n0_ n1_ n2_; clear ho hb hg hat)); try go_wp2_with (first | ((with_reducible refine gate_builtin (b := .append) (xs := #[.tmp 69, .tmp 71]) rfl ?_); at_builtin; refine Kd.R_append (Kd.int .i64) (w0 := w) w.heap.size rfl (.tmp 69) (.tmp 71) 37 3 (.int .i64 0) 8 rfl Try.underlying37 info3 rfl (by decide) (by omega) (.slice (some ad286) x8_3.length co29) x8_3 (rd x8_3 x9_3) [.int .i64 (rd x8_3 x9_3)] (fun k_ => some k_ ≠ (.slice (some ad285) x5_2.length co28 : Value).ownBlock) (fun _ => False) rfl rfl ?aP (fun _ hk => hk.elim) ?aF ?aO ?aB ?aS ?aL ?_; (case aP => exact rfl); (case aB => exact (pxb HB)); (case aF => exact (fun k_ hk => Kd.fresh' (Kd.R_lt (pxr HO_5)) k_ hk)); (case aO => exact (pxr HO_8)); (case aS => exact (below_size (pxb HB))); (case aL => have := LMc27.out; omega); intro v294 w30 ho hb hg hat; rw [← Ny293.out] at ho; have n0_ := Aside0.mk (Kd.R_after (ok := (fun _ => True)) (by (with_reducible repeat (first | apply Kd.R_alloc | apply Kd.R_drewN | apply Kd.R_drew)); exact Kd.R_mono HO_5.out (fun _ hk => ⟨trivial, hk⟩)) hg hat); have n1_ := Aside0.mk (hb); have n2_ := Aside0.mk (ho); clear HO_5; clear HB; clear HO_8; have HO_5 := n0_; have HB := n1_; have HO295 := n2_; clear n0_ n1_ n2_; clear ho hb hg hat)))
                     go_roundg k3
                     case measure => have := HK1.out; have := HK2.out; have := HK3.out; omega
                     case rel => exact ⟨(y293), (ji10), (by first | rfl | (simp; done) | (simp only [← hji10] <;> (first | rfl | simp)) | (simp [*]; done)), H', ⟨by have := HK1.out; have := HK2.out; have := HK3.out; omega⟩, ⟨by (with_reducible repeat (first | apply Kd.R_alloc | apply Kd.R_drewN | apply Kd.R_drew)); exact Kd.R_mono HO_5.out (fun _ hk => hk.2)⟩, ⟨pxr HO295⟩, ⟨pxb HB⟩⟩
                    ·rw [if_neg c27] at H
                     exact absurd H (by simp)
                  ·rw [if_neg c21] at H
                   exact absurd H (by simp)
                 ·rw [if_neg c20] at H
                  have c20b0 : ((bt a0 x7_2) == (bt a1 x9_3)) = false := beq_eq_false_iff_ne.mpr c20
                  have c20b1 : ((bt a0 x7_2) != (bt a1 x9_3)) = true := bne_iff_ne.mpr c20
                  by_cases c31 : x8_3.length < 17592186044416
                  ·rw [if_pos c31] at H
                   have LMc31 := Aside0.mk c31
                   clear c31
                   obtain ⟨y296, hy296⟩ : ∃ y_ : List Int, y_ = (x8_3 ++ [rd x8_3 x9_3]) := ⟨_, rfl⟩
                   replace H : (caulkerref04_Common.l2 k3 a0 a1 x5_2 x7_2 y296 ji10) = some r := by first | (rw [hy296]; with_reducible exact H) | (have H2_ := (Option.bind_some _ _).symm.trans H; rw [hy296]; with_reducible exact H2_) | (have H2_ := (Option.bind_some _ _).symm.trans H; with_reducible exact H2_) | with_reducible exact H | (rw [hy296]; exact H) | exact H
                   have Ny296 := Aside0.mk hy296
                   clear hy296
                   have H' := Aside0.mk H
                   clear H
                   obtain ⟨Ao32, co32, eo32⟩ := Kd.R_slice HO_5.out
                   subst eo32
                   have p285 : 0 ≤ ((ji10) : Int) := of_decide_eq_true (by first | (with_reducible assumption) | assumption)
                   have q285 : (ji10) < (x5_2.length : Int) := of_decide_eq_true (by first | (with_reducible assumption) | assumption)
                   obtain ⟨ad285, e285, hx285_0⟩ := Kd.at_int (Kd.R_reads' HO_5.out).2.2 (ji10) p285 q285
                   cases e285
                   replace p285 := eq_true p285
                   replace q285 := eq_true q285
                   obtain ⟨Ao33, co33, eo33⟩ := Kd.R_slice HO_8.out
                   subst eo33
                   have p286 : 0 ≤ (x9_3 : Int) := of_decide_eq_true (by first | (with_reducible assumption) | assumption)
                   have q286 : x9_3 < (x8_3.length : Int) := of_decide_eq_true (by first | (with_reducible assumption) | assumption)
                   obtain ⟨ad286, e286, hx286_0⟩ := Kd.at_int (Kd.R_reads' HO_8.out).2.2 x9_3 p286 q286
                   cases e286
                   replace p286 := eq_true p286
                   replace q286 := eq_true q286
                   have p287 : 0 ≤ (x9_3 : Int) := of_decide_eq_true (by first | (with_reducible assumption) | assumption)
                   have q287 : x9_3 < (x8_3.length : Int) := of_decide_eq_true (by first | (with_reducible assumption) | assumption)
                   obtain ⟨ad287, e287, hx287_0⟩ := Kd.at_int (Kd.R_reads' HO_8.out).2.2 x9_3 p287 q287
                   obtain rfl : ad286 = ad287 := (by injection e287)
                   replace p287 := eq_true p287
                   replace q287 := eq_true q287
                   have p18 : 0 ≤ (x7_2 : Int) := of_decide_eq_true (by first | (with_reducible assumption) | assumption)
                   have q18 : x7_2 < (a0.size : Int) := of_decide_eq_true (by first | (with_reducible assumption) | assumption)
                   have hx18 := bt_at a0 x7_2
                   replace p18 := eq_true p18
                   replace q18 := eq_true q18
                   have p19 : 0 ≤ (x9_3 : Int) := of_decide_eq_true (by first | (with_reducible assumption) | assumption)
                   have q19 : x9_3 < (a1.size : Int) := of_decide_eq_true (by first | (with_reducible assumption) | assumption)
                   have hx19 := bt_at a1 x9_3
                   replace p19 := eq_true p19
                   replace q19 := eq_true q19
                   go_wp2_with (first | ((with_reducible refine gate_builtin (b := .append) (xs := #[.tmp 69, .tmp 71]) rfl ?_); at_builtin; refine Kd.R_append (Kd.int .i64) (w0 := w) w.heap.size rfl (.tmp 69) (.tmp 71) 37 3 (.int .i64 0) 8 rfl Try.underlying37 info3 rfl (by decide) (by omega) (.slice (some ad286) x8_3.length co33) x8_3 (rd x8_3 x9_3) [.int .i64 (rd x8_3 x9_3)] (fun k_ => some k_ ≠ (.slice (some ad285) x5_2.length co32 : Value).ownBlock) (fun _ => False) rfl rfl ?aP (fun _ hk => hk.elim) ?aF ?aO ?aB ?aS ?aL ?_; (case aP => exact rfl); (case aB => exact (pxb HB)); (case aF => exact (fun k_ hk => Kd.fresh' (Kd.R_lt (pxr HO_5)) k_ hk)); (case aO => exact (pxr HO_8)); (case aS => exact (below_size (pxb HB))); (case aL => have := LMc31.out; omega); intro v297 w34 ho hb hg hat; rw [← Ny296.out] at ho; have n0_ := Aside0.mk (Kd.R_after (ok := (fun _ => True)) (by (with_reducible repeat (first | apply Kd.R_alloc | apply Kd.R_drewN | apply Kd.R_drew)); exact Kd.R_mono HO_5.out (fun _ hk => ⟨trivial, hk⟩)) hg hat); have n1_ := Aside0.mk (hb); have n2_ := Aside0.mk (ho); clear HO_5; clear HB; clear HO_8; have HO_5 := n0_; have HB := n1_; have HO298 := n2_; clear n0_ n1_ n2_; clear ho hb hg hat))
                   repeat (go_quiet (first | ((with_reducible refine gate_builtin (b := .append) (xs := #[.tmp 69, .tmp 71]) rfl ?_); at_builtin; refine Kd.R_append (Kd.int .i64) (w0 := w) w.heap.size rfl (.tmp 69) (.tmp 71) 37 3 (.int .i64 0) 8 rfl Try.underlying37 info3 rfl (by decide) (by omega) (.slice (some ad286) x8_3.length co33) x8_3 (rd x8_3 x9_3) [.int .i64 (rd x8_3 x9_3)] (fun k_ => some k_ ≠ (.slice (some ad285) x5_2.length co32 : Value).ownBlock) (fun _ => False) rfl rfl ?aP (fun _ hk => hk.elim) ?aF ?aO ?aB ?aS ?aL ?_; (case aP => exact rfl); (case aB => exact (pxb HB)); (case aF => exact (fun k_ hk => Kd.fresh' (Kd.R_lt (pxr HO_5)) k_ hk)); (case aO => exact (pxr HO_8)); (case aS => exact (below_size (pxb HB))); (case aL => have := LMc31.out; omega); intro v297 w34 ho hb hg hat; rw [← Ny296.out] at ho; have n0_ := Aside0.mk (Kd.R_after (ok := (fun _ => True)) (by (with_reducible repeat (first | apply Kd.R_alloc | apply Kd.R_drewN | apply Kd.R_drew)); exact Kd.R_mono HO_5.out (fun _ hk => ⟨trivial, hk⟩)) hg hat); have n1_ := Aside0.mk (hb); have n2_ := Aside0.mk (ho); clear HO_5; clear HB; clear HO_8; have HO_5 := n0_; have HB := n1_; have HO298 := n2_; clear n0_ n1_ n2_; clear ho hb hg hat)); try go_wp2_with (first | ((with_reducible refine gate_builtin (b := .append) (xs := #[.tmp 69, .tmp 71]) rfl ?_); at_builtin; refine Kd.R_append (Kd.int .i64) (w0 := w) w.heap.size rfl (.tmp 69) (.tmp 71) 37 3 (.int .i64 0) 8 rfl Try.underlying37 info3 rfl (by decide) (by omega) (.slice (some ad286) x8_3.length co33) x8_3 (rd x8_3 x9_3) [.int .i64 (rd x8_3 x9_3)] (fun k_ => some k_ ≠ (.slice (some ad285) x5_2.length co32 : Value).ownBlock) (fun _ => False) rfl rfl ?aP (fun _ hk => hk.elim) ?aF ?aO ?aB ?aS ?aL ?_; (case aP => exact rfl); (case aB => exact (pxb HB)); (case aF => exact (fun k_ hk => Kd.fresh' (Kd.R_lt (pxr HO_5)) k_ hk)); (case aO => exact (pxr HO_8)); (case aS => exact (below_size (pxb HB))); (case aL => have := LMc31.out; omega); intro v297 w34 ho hb hg hat; rw [← Ny296.out] at ho; have n0_ := Aside0.mk (Kd.R_after (ok := (fun _ => True)) (by (with_reducible repeat (first | apply Kd.R_alloc | apply Kd.R_drewN | apply Kd.R_drew)); exact Kd.R_mono HO_5.out (fun _ hk => ⟨trivial, hk⟩)) hg hat); have n1_ := Aside0.mk (hb); have n2_ := Aside0.mk (ho); clear HO_5; clear HB; clear HO_8; have HO_5 := n0_; have HB := n1_; have HO298 := n2_; clear n0_ n1_ n2_; clear ho hb hg hat)))
                   go_roundg k3
                   case measure => have := HK1.out; have := HK2.out; have := HK3.out; omega
                   case rel => exact ⟨(y296), (ji10), (by first | rfl | (simp; done) | (simp only [← hji10] <;> (first | rfl | simp)) | (simp [*]; done)), H', ⟨by have := HK1.out; have := HK2.out; have := HK3.out; omega⟩, ⟨by (with_reducible repeat (first | apply Kd.R_alloc | apply Kd.R_drewN | apply Kd.R_drew)); exact Kd.R_mono HO_5.out (fun _ hk => hk.2)⟩, ⟨pxr HO298⟩, ⟨pxb HB⟩⟩
                  ·rw [if_neg c31] at H
                   exact absurd H (by simp)
                ·rw [if_neg c17] at H
                 exact absurd H (by simp)
               ·rw [if_neg c16] at H
                exact absurd H (by simp)
              ·rw [if_neg c15] at H
               have c15b0 : decide ((rd x5_2 (ji10)) < (rd x8_3 x9_3)) = false := decide_eq_false c15
               clear c15
               by_cases c35 : 0 ≤ x7_2
               ·rw [if_pos c35] at H
                have c35b0 : decide (0 ≤ x7_2) = true := decide_eq_true c35
                clear c35
                by_cases c36 : x7_2 < (a0.size : Int)
                ·rw [if_pos c36] at H
                 have c36b0 : decide (x7_2 < (a0.size : Int)) = true := decide_eq_true c36
                 clear c36
                 by_cases c39 : (bt a0 x7_2) = (bt a1 x9_3)
                 ·rw [if_pos c39] at H
                  have c39b0 : ((bt a0 x7_2) == (bt a1 x9_3)) = true := beq_iff_eq.mpr c39
                  have c39b1 : ((bt a0 x7_2) != (bt a1 x9_3)) = false := bne_eq_false_iff_eq.mpr c39
                  clear c39
                  by_cases c40 : x9_3 < (x5_2.length : Int)
                  ·rw [if_pos c40] at H
                   have c40b0 : decide (x9_3 < (x5_2.length : Int)) = true := decide_eq_true c40
                   clear c40
                   by_cases c41 : (wrap64 ((rd x5_2 x9_3) + 1)) > (rd x5_2 (ji10))
                   ·rw [if_pos c41] at H
                    have c41b0 : decide ((rd x5_2 (ji10)) < (wrap64 ((rd x5_2 x9_3) + 1))) = true := decide_eq_true c41
                    clear c41
                    by_cases c42 : x8_3.length < 17592186044416
                    ·rw [if_pos c42] at H
                     have LMc42 := Aside0.mk c42
                     clear c42
                     obtain ⟨y301, hy301⟩ : ∃ y_ : List Int, y_ = (x8_3 ++ [wrap64 ((rd x5_2 x9_3) + 1)]) := ⟨_, rfl⟩
                     replace H : (caulkerref04_Common.l2 k3 a0 a1 x5_2 x7_2 y301 ji10) = some r := by first | (rw [hy301]; with_reducible exact H) | (have H2_ := (Option.bind_some _ _).symm.trans H; rw [hy301]; with_reducible exact H2_) | (have H2_ := (Option.bind_some _ _).symm.trans H; with_reducible exact H2_) | with_reducible exact H | (rw [hy301]; exact H) | exact H
                     have Ny301 := Aside0.mk hy301
                     clear hy301
                     have H' := Aside0.mk H
                     clear H
                     obtain ⟨Ao43, co43, eo43⟩ := Kd.R_slice HO_5.out
                     subst eo43
                     have p285 : 0 ≤ ((ji10) : Int) := of_decide_eq_true (by first | (with_reducible assumption) | assumption)
                     have q285 : (ji10) < (x5_2.length : Int) := of_decide_eq_true (by first | (with_reducible assumption) | assumption)
                     obtain ⟨ad285, e285, hx285_0⟩ := Kd.at_int (Kd.R_reads' HO_5.out).2.2 (ji10) p285 q285
                     cases e285
                     replace p285 := eq_true p285
                     replace q285 := eq_true q285
                     obtain ⟨Ao44, co44, eo44⟩ := Kd.R_slice HO_8.out
                     subst eo44
                     have p286 : 0 ≤ (x9_3 : Int) := of_decide_eq_true (by first | (with_reducible assumption) | assumption)
                     have q286 : x9_3 < (x8_3.length : Int) := of_decide_eq_true (by first | (with_reducible assumption) | assumption)
                     obtain ⟨ad286, e286, hx286_0⟩ := Kd.at_int (Kd.R_reads' HO_8.out).2.2 x9_3 p286 q286
                     cases e286
                     replace p286 := eq_true p286
                     replace q286 := eq_true q286
                     have p37 : 0 ≤ (x7_2 : Int) := of_decide_eq_true (by first | (with_reducible assumption) | assumption)
                     have q37 : x7_2 < (a0.size : Int) := of_decide_eq_true (by first | (with_reducible assumption) | assumption)
                     have hx37 := bt_at a0 x7_2
                     replace p37 := eq_true p37
                     replace q37 := eq_true q37
                     have p38 : 0 ≤ (x9_3 : Int) := of_decide_eq_true (by first | (with_reducible assumption) | assumption)
                     have q38 : x9_3 < (a1.size : Int) := of_decide_eq_true (by first | (with_reducible assumption) | assumption)
                     have hx38 := bt_at a1 x9_3
                     replace p38 := eq_true p38
                     replace q38 := eq_true q38
                     have p299 : 0 ≤ (x9_3 : Int) := of_decide_eq_true (by first | (with_reducible assumption) | assumption)
                     have q299 : x9_3 < (x5_2.length : Int) := of_decide_eq_true (by first | (with_reducible assumption) | assumption)
                     obtain ⟨ad299, e299, hx299_0⟩ := Kd.at_int (Kd.R_reads' HO_5.out).2.2 x9_3 p299 q299
                     obtain rfl : ad285 = ad299 := (by injection e299)
                     replace p299 := eq_true p299
                     replace q299 := eq_true q299
                     have p300 : 0 ≤ (x9_3 : Int) := of_decide_eq_true (by first | (with_reducible assumption) | assumption)
                     have q300 : x9_3 < (x5_2.length : Int) := of_decide_eq_true (by first | (with_reducible assumption) | assumption)
                     obtain ⟨ad300, e300, hx300_0⟩ := Kd.at_int (Kd.R_reads' HO_5.out).2.2 x9_3 p300 q300
                     obtain rfl : ad285 = ad300 := (by injection e300)
                     replace p300 := eq_true p300
                     replace q300 := eq_true q300
                     go_wp2_with (first | ((with_reducible refine gate_builtin (b := .append) (xs := #[.tmp 69, .tmp 71]) rfl ?_); at_builtin; refine Kd.R_append (Kd.int .i64) (w0 := w) w.heap.size rfl (.tmp 69) (.tmp 71) 37 3 (.int .i64 0) 8 rfl Try.underlying37 info3 rfl (by decide) (by omega) (.slice (some ad286) x8_3.length co44) x8_3 (wrap64 ((rd x5_2 x9_3) + 1)) [.int .i64 (wrap64 ((rd x5_2 x9_3) + 1))] (fun k_ => some k_ ≠ (.slice (some ad285) x5_2.length co43 : Value).ownBlock) (fun _ => False) rfl rfl ?aP (fun _ hk => hk.elim) ?aF ?aO ?aB ?aS ?aL ?_; (case aP => exact rfl); (case aB => exact (pxb HB)); (case aF => exact (fun k_ hk => Kd.fresh' (Kd.R_lt (pxr HO_5)) k_ hk)); (case aO => exact (pxr HO_8)); (case aS => exact (below_size (pxb HB))); (case aL => have := LMc42.out; omega); intro v302 w45 ho hb hg hat; rw [← Ny301.out] at ho; have n0_ := Aside0.mk (Kd.R_after (ok := (fun _ => True)) (by (with_reducible repeat (first | apply Kd.R_alloc | apply Kd.R_drewN | apply Kd.R_drew)); exact Kd.R_mono HO_5.out (fun _ hk => ⟨trivial, hk⟩)) hg hat); have n1_ := Aside0.mk (hb); have n2_ := Aside0.mk (ho); clear HO_5; clear HB; clear HO_8; have HO_5 := n0_; have HB := n1_; have HO303 := n2_; clear n0_ n1_ n2_; clear ho hb hg hat))
                     repeat (go_quiet (first | ((with_reducible refine gate_builtin (b := .append) (xs := #[.tmp 69, .tmp 71]) rfl ?_); at_builtin; refine Kd.R_append (Kd.int .i64) (w0 := w) w.heap.size rfl (.tmp 69) (.tmp 71) 37 3 (.int .i64 0) 8 rfl Try.underlying37 info3 rfl (by decide) (by omega) (.slice (some ad286) x8_3.length co44) x8_3 (wrap64 ((rd x5_2 x9_3) + 1)) [.int .i64 (wrap64 ((rd x5_2 x9_3) + 1))] (fun k_ => some k_ ≠ (.slice (some ad285) x5_2.length co43 : Value).ownBlock) (fun _ => False) rfl rfl ?aP (fun _ hk => hk.elim) ?aF ?aO ?aB ?aS ?aL ?_; (case aP => exact rfl); (case aB => exact (pxb HB)); (case aF => exact (fun k_ hk => Kd.fresh' (Kd.R_lt (pxr HO_5)) k_ hk)); (case aO => exact (pxr HO_8)); (case aS => exact (below_size (pxb HB))); (case aL => have := LMc42.out; omega); intro v302 w45 ho hb hg hat; rw [← Ny301.out] at ho; have n0_ := Aside0.mk (Kd.R_after (ok := (fun _ => True)) (by (with_reducible repeat (first | apply Kd.R_alloc | apply Kd.R_drewN | apply Kd.R_drew)); exact Kd.R_mono HO_5.out (fun _ hk => ⟨trivial, hk⟩)) hg hat); have n1_ := Aside0.mk (hb); have n2_ := Aside0.mk (ho); clear HO_5; clear HB; clear HO_8; have HO_5 := n0_; have HB := n1_; have HO303 := n2_; clear n0_ n1_ n2_; clear ho hb hg hat)); try go_wp2_with (first | ((with_reducible refine gate_builtin (b := .append) (xs := #[.tmp 69, .tmp 71]) rfl ?_); at_builtin; refine Kd.R_append (Kd.int .i64) (w0 := w) w.heap.size rfl (.tmp 69) (.tmp 71) 37 3 (.int .i64 0) 8 rfl Try.underlying37 info3 rfl (by decide) (by omega) (.slice (some ad286) x8_3.length co44) x8_3 (wrap64 ((rd x5_2 x9_3) + 1)) [.int .i64 (wrap64 ((rd x5_2 x9_3) + 1))] (fun k_ => some k_ ≠ (.slice (some ad285) x5_2.length co43 : Value).ownBlock) (fun _ => False) rfl rfl ?aP (fun _ hk => hk.elim) ?aF ?aO ?aB ?aS ?aL ?_; (case aP => exact rfl); (case aB => exact (pxb HB)); (case aF => exact (fun k_ hk => Kd.fresh' (Kd.R_lt (pxr HO_5)) k_ hk)); (case aO => exact (pxr HO_8)); (case aS => exact (below_size (pxb HB))); (case aL => have := LMc42.out; omega); intro v302 w45 ho hb hg hat; rw [← Ny301.out] at ho; have n0_ := Aside0.mk (Kd.R_after (ok := (fun _ => True)) (by (with_reducible repeat (first | apply Kd.R_alloc | apply Kd.R_drewN | apply Kd.R_drew)); exact Kd.R_mono HO_5.out (fun _ hk => ⟨trivial, hk⟩)) hg hat); have n1_ := Aside0.mk (hb); have n2_ := Aside0.mk (ho); clear HO_5; clear HB; clear HO_8; have HO_5 := n0_; have HB := n1_; have HO303 := n2_; clear n0_ n1_ n2_; clear ho hb hg hat)))
                     go_roundg k3
                     case measure => have := HK1.out; have := HK2.out; have := HK3.out; omega
                     case rel => exact ⟨(y301), (ji10), (by first | rfl | (simp; done) | (simp only [← hji10] <;> (first | rfl | simp)) | (simp [*]; done)), H', ⟨by have := HK1.out; have := HK2.out; have := HK3.out; omega⟩, ⟨by (with_reducible repeat (first | apply Kd.R_alloc | apply Kd.R_drewN | apply Kd.R_drew)); exact Kd.R_mono HO_5.out (fun _ hk => hk.2)⟩, ⟨pxr HO303⟩, ⟨pxb HB⟩⟩
                    ·rw [if_neg c42] at H
                     exact absurd H (by simp)
                   ·rw [if_neg c41] at H
                    have c41b0 : decide ((rd x5_2 (ji10)) < (wrap64 ((rd x5_2 x9_3) + 1))) = false := decide_eq_false c41
                    clear c41
                    by_cases c46 : x8_3.length < 17592186044416
                    ·rw [if_pos c46] at H
                     have LMc46 := Aside0.mk c46
                     clear c46
                     obtain ⟨y304, hy304⟩ : ∃ y_ : List Int, y_ = (x8_3 ++ [rd x5_2 (ji10)]) := ⟨_, rfl⟩
                     replace H : (caulkerref04_Common.l2 k3 a0 a1 x5_2 x7_2 y304 ji10) = some r := by first | (rw [hy304]; with_reducible exact H) | (have H2_ := (Option.bind_some _ _).symm.trans H; rw [hy304]; with_reducible exact H2_) | (have H2_ := (Option.bind_some _ _).symm.trans H; with_reducible exact H2_) | with_reducible exact H | (rw [hy304]; exact H) | exact H
                     have Ny304 := Aside0.mk hy304
                     clear hy304
                     have H' := Aside0.mk H
                     clear H
                     obtain ⟨Ao47, co47, eo47⟩ := Kd.R_slice HO_5.out
                     subst eo47
                     have p285 : 0 ≤ ((ji10) : Int) := of_decide_eq_true (by first | (with_reducible assumption) | assumption)
                     have q285 : (ji10) < (x5_2.length : Int) := of_decide_eq_true (by first | (with_reducible assumption) | assumption)
                     obtain ⟨ad285, e285, hx285_0⟩ := Kd.at_int (Kd.R_reads' HO_5.out).2.2 (ji10) p285 q285
                     cases e285
                     replace p285 := eq_true p285
                     replace q285 := eq_true q285
                     obtain ⟨Ao48, co48, eo48⟩ := Kd.R_slice HO_8.out
                     subst eo48
                     have p286 : 0 ≤ (x9_3 : Int) := of_decide_eq_true (by first | (with_reducible assumption) | assumption)
                     have q286 : x9_3 < (x8_3.length : Int) := of_decide_eq_true (by first | (with_reducible assumption) | assumption)
                     obtain ⟨ad286, e286, hx286_0⟩ := Kd.at_int (Kd.R_reads' HO_8.out).2.2 x9_3 p286 q286
                     cases e286
                     replace p286 := eq_true p286
                     replace q286 := eq_true q286
                     have p37 : 0 ≤ (x7_2 : Int) := of_decide_eq_true (by first | (with_reducible assumption) | assumption)
                     have q37 : x7_2 < (a0.size : Int) := of_decide_eq_true (by first | (with_reducible assumption) | assumption)
                     have hx37 := bt_at a0 x7_2
                     replace p37 := eq_true p37
                     replace q37 := eq_true q37
                     have p38 : 0 ≤ (x9_3 : Int) := of_decide_eq_true (by first | (with_reducible assumption) | assumption)
                     have q38 : x9_3 < (a1.size : Int) := of_decide_eq_true (by first | (with_reducible assumption) | assumption)
                     have hx38 := bt_at a1 x9_3
                     replace p38 := eq_true p38
                     replace q38 := eq_true q38
                     have p299 : 0 ≤ (x9_3 : Int) := of_decide_eq_true (by first | (with_reducible assumption) | assumption)
                     have q299 : x9_3 < (x5_2.length : Int) := of_decide_eq_true (by first | (with_reducible assumption) | assumption)
                     obtain ⟨ad299, e299, hx299_0⟩ := Kd.at_int (Kd.R_reads' HO_5.out).2.2 x9_3 p299 q299
                     obtain rfl : ad285 = ad299 := (by injection e299)
                     replace p299 := eq_true p299
                     replace q299 := eq_true q299
                     go_wp2_with (first | ((with_reducible refine gate_builtin (b := .append) (xs := #[.tmp 69, .tmp 71]) rfl ?_); at_builtin; refine Kd.R_append (Kd.int .i64) (w0 := w) w.heap.size rfl (.tmp 69) (.tmp 71) 37 3 (.int .i64 0) 8 rfl Try.underlying37 info3 rfl (by decide) (by omega) (.slice (some ad286) x8_3.length co48) x8_3 (rd x5_2 (ji10)) [.int .i64 (rd x5_2 (ji10))] (fun k_ => some k_ ≠ (.slice (some ad285) x5_2.length co47 : Value).ownBlock) (fun _ => False) rfl rfl ?aP (fun _ hk => hk.elim) ?aF ?aO ?aB ?aS ?aL ?_; (case aP => exact rfl); (case aB => exact (pxb HB)); (case aF => exact (fun k_ hk => Kd.fresh' (Kd.R_lt (pxr HO_5)) k_ hk)); (case aO => exact (pxr HO_8)); (case aS => exact (below_size (pxb HB))); (case aL => have := LMc46.out; omega); intro v305 w49 ho hb hg hat; rw [← Ny304.out] at ho; have n0_ := Aside0.mk (Kd.R_after (ok := (fun _ => True)) (by (with_reducible repeat (first | apply Kd.R_alloc | apply Kd.R_drewN | apply Kd.R_drew)); exact Kd.R_mono HO_5.out (fun _ hk => ⟨trivial, hk⟩)) hg hat); have n1_ := Aside0.mk (hb); have n2_ := Aside0.mk (ho); clear HO_5; clear HB; clear HO_8; have HO_5 := n0_; have HB := n1_; have HO306 := n2_; clear n0_ n1_ n2_; clear ho hb hg hat))
                     repeat (go_quiet (first | ((with_reducible refine gate_builtin (b := .append) (xs := #[.tmp 69, .tmp 71]) rfl ?_); at_builtin; refine Kd.R_append (Kd.int .i64) (w0 := w) w.heap.size rfl (.tmp 69) (.tmp 71) 37 3 (.int .i64 0) 8 rfl Try.underlying37 info3 rfl (by decide) (by omega) (.slice (some ad286) x8_3.length co48) x8_3 (rd x5_2 (ji10)) [.int .i64 (rd x5_2 (ji10))] (fun k_ => some k_ ≠ (.slice (some ad285) x5_2.length co47 : Value).ownBlock) (fun _ => False) rfl rfl ?aP (fun _ hk => hk.elim) ?aF ?aO ?aB ?aS ?aL ?_; (case aP => exact rfl); (case aB => exact (pxb HB)); (case aF => exact (fun k_ hk => Kd.fresh' (Kd.R_lt (pxr HO_5)) k_ hk)); (case aO => exact (pxr HO_8)); (case aS => exact (below_size (pxb HB))); (case aL => have := LMc46.out; omega); intro v305 w49 ho hb hg hat; rw [← Ny304.out] at ho; have n0_ := Aside0.mk (Kd.R_after (ok := (fun _ => True)) (by (with_reducible repeat (first | apply Kd.R_alloc | apply Kd.R_drewN | apply Kd.R_drew)); exact Kd.R_mono HO_5.out (fun _ hk => ⟨trivial, hk⟩)) hg hat); have n1_ := Aside0.mk (hb); have n2_ := Aside0.mk (ho); clear HO_5; clear HB; clear HO_8; have HO_5 := n0_; have HB := n1_; have HO306 := n2_; clear n0_ n1_ n2_; clear ho hb hg hat)); try go_wp2_with (first | ((with_reducible refine gate_builtin (b := .append) (xs := #[.tmp 69, .tmp 71]) rfl ?_); at_builtin; refine Kd.R_append (Kd.int .i64) (w0 := w) w.heap.size rfl (.tmp 69) (.tmp 71) 37 3 (.int .i64 0) 8 rfl Try.underlying37 info3 rfl (by decide) (by omega) (.slice (some ad286) x8_3.length co48) x8_3 (rd x5_2 (ji10)) [.int .i64 (rd x5_2 (ji10))] (fun k_ => some k_ ≠ (.slice (some ad285) x5_2.length co47 : Value).ownBlock) (fun _ => False) rfl rfl ?aP (fun _ hk => hk.elim) ?aF ?aO ?aB ?aS ?aL ?_; (case aP => exact rfl); (case aB => exact (pxb HB)); (case aF => exact (fun k_ hk => Kd.fresh' (Kd.R_lt (pxr HO_5)) k_ hk)); (case aO => exact (pxr HO_8)); (case aS => exact (below_size (pxb HB))); (case aL => have := LMc46.out; omega); intro v305 w49 ho hb hg hat; rw [← Ny304.out] at ho; have n0_ := Aside0.mk (Kd.R_after (ok := (fun _ => True)) (by (with_reducible repeat (first | apply Kd.R_alloc | apply Kd.R_drewN | apply Kd.R_drew)); exact Kd.R_mono HO_5.out (fun _ hk => ⟨trivial, hk⟩)) hg hat); have n1_ := Aside0.mk (hb); have n2_ := Aside0.mk (ho); clear HO_5; clear HB; clear HO_8; have HO_5 := n0_; have HB := n1_; have HO306 := n2_; clear n0_ n1_ n2_; clear ho hb hg hat)))
                     go_roundg k3
                     case measure => have := HK1.out; have := HK2.out; have := HK3.out; omega
                     case rel => exact ⟨(y304), (ji10), (by first | rfl | (simp; done) | (simp only [← hji10] <;> (first | rfl | simp)) | (simp [*]; done)), H', ⟨by have := HK1.out; have := HK2.out; have := HK3.out; omega⟩, ⟨by (with_reducible repeat (first | apply Kd.R_alloc | apply Kd.R_drewN | apply Kd.R_drew)); exact Kd.R_mono HO_5.out (fun _ hk => hk.2)⟩, ⟨pxr HO306⟩, ⟨pxb HB⟩⟩
                    ·rw [if_neg c46] at H
                     exact absurd H (by simp)
                  ·rw [if_neg c40] at H
                   exact absurd H (by simp)
                 ·rw [if_neg c39] at H
                  have c39b0 : ((bt a0 x7_2) == (bt a1 x9_3)) = false := beq_eq_false_iff_ne.mpr c39
                  have c39b1 : ((bt a0 x7_2) != (bt a1 x9_3)) = true := bne_iff_ne.mpr c39
                  by_cases c50 : x8_3.length < 17592186044416
                  ·rw [if_pos c50] at H
                   have LMc50 := Aside0.mk c50
                   clear c50
                   obtain ⟨y307, hy307⟩ : ∃ y_ : List Int, y_ = (x8_3 ++ [rd x5_2 (ji10)]) := ⟨_, rfl⟩
                   replace H : (caulkerref04_Common.l2 k3 a0 a1 x5_2 x7_2 y307 ji10) = some r := by first | (rw [hy307]; with_reducible exact H) | (have H2_ := (Option.bind_some _ _).symm.trans H; rw [hy307]; with_reducible exact H2_) | (have H2_ := (Option.bind_some _ _).symm.trans H; with_reducible exact H2_) | with_reducible exact H | (rw [hy307]; exact H) | exact H
                   have Ny307 := Aside0.mk hy307
                   clear hy307
                   have H' := Aside0.mk H
                   clear H
                   obtain ⟨Ao51, co51, eo51⟩ := Kd.R_slice HO_5.out
                   subst eo51
                   have p285 : 0 ≤ ((ji10) : Int) := of_decide_eq_true (by first | (with_reducible assumption) | assumption)
                   have q285 : (ji10) < (x5_2.length : Int) := of_decide_eq_true (by first | (with_reducible assumption) | assumption)
                   obtain ⟨ad285, e285, hx285_0⟩ := Kd.at_int (Kd.R_reads' HO_5.out).2.2 (ji10) p285 q285
                   cases e285
                   replace p285 := eq_true p285
                   replace q285 := eq_true q285
                   obtain ⟨Ao52, co52, eo52⟩ := Kd.R_slice HO_8.out
                   subst eo52
                   have p286 : 0 ≤ (x9_3 : Int) := of_decide_eq_true (by first | (with_reducible assumption) | assumption)
                   have q286 : x9_3 < (x8_3.length : Int) := of_decide_eq_true (by first | (with_reducible assumption) | assumption)
                   obtain ⟨ad286, e286, hx286_0⟩ := Kd.at_int (Kd.R_reads' HO_8.out).2.2 x9_3 p286 q286
                   cases e286
                   replace p286 := eq_true p286
                   replace q286 := eq_true q286
                   have p37 : 0 ≤ (x7_2 : Int) := of_decide_eq_true (by first | (with_reducible assumption) | assumption)
                   have q37 : x7_2 < (a0.size : Int) := of_decide_eq_true (by first | (with_reducible assumption) | assumption)
                   have hx37 := bt_at a0 x7_2
                   replace p37 := eq_true p37
                   replace q37 := eq_true q37
                   have p38 : 0 ≤ (x9_3 : Int) := of_decide_eq_true (by first | (with_reducible assumption) | assumption)
                   have q38 : x9_3 < (a1.size : Int) := of_decide_eq_true (by first | (with_reducible assumption) | assumption)
                   have hx38 := bt_at a1 x9_3
                   replace p38 := eq_true p38
                   replace q38 := eq_true q38
                   go_wp2_with (first | ((with_reducible refine gate_builtin (b := .append) (xs := #[.tmp 69, .tmp 71]) rfl ?_); at_builtin; refine Kd.R_append (Kd.int .i64) (w0 := w) w.heap.size rfl (.tmp 69) (.tmp 71) 37 3 (.int .i64 0) 8 rfl Try.underlying37 info3 rfl (by decide) (by omega) (.slice (some ad286) x8_3.length co52) x8_3 (rd x5_2 (ji10)) [.int .i64 (rd x5_2 (ji10))] (fun k_ => some k_ ≠ (.slice (some ad285) x5_2.length co51 : Value).ownBlock) (fun _ => False) rfl rfl ?aP (fun _ hk => hk.elim) ?aF ?aO ?aB ?aS ?aL ?_; (case aP => exact rfl); (case aB => exact (pxb HB)); (case aF => exact (fun k_ hk => Kd.fresh' (Kd.R_lt (pxr HO_5)) k_ hk)); (case aO => exact (pxr HO_8)); (case aS => exact (below_size (pxb HB))); (case aL => have := LMc50.out; omega); intro v308 w53 ho hb hg hat; rw [← Ny307.out] at ho; have n0_ := Aside0.mk (Kd.R_after (ok := (fun _ => True)) (by (with_reducible repeat (first | apply Kd.R_alloc | apply Kd.R_drewN | apply Kd.R_drew)); exact Kd.R_mono HO_5.out (fun _ hk => ⟨trivial, hk⟩)) hg hat); have n1_ := Aside0.mk (hb); have n2_ := Aside0.mk (ho); clear HO_5; clear HB; clear HO_8; have HO_5 := n0_; have HB := n1_; have HO309 := n2_; clear n0_ n1_ n2_; clear ho hb hg hat))
                   repeat (go_quiet (first | ((with_reducible refine gate_builtin (b := .append) (xs := #[.tmp 69, .tmp 71]) rfl ?_); at_builtin; refine Kd.R_append (Kd.int .i64) (w0 := w) w.heap.size rfl (.tmp 69) (.tmp 71) 37 3 (.int .i64 0) 8 rfl Try.underlying37 info3 rfl (by decide) (by omega) (.slice (some ad286) x8_3.length co52) x8_3 (rd x5_2 (ji10)) [.int .i64 (rd x5_2 (ji10))] (fun k_ => some k_ ≠ (.slice (some ad285) x5_2.length co51 : Value).ownBlock) (fun _ => False) rfl rfl ?aP (fun _ hk => hk.elim) ?aF ?aO ?aB ?aS ?aL ?_; (case aP => exact rfl); (case aB => exact (pxb HB)); (case aF => exact (fun k_ hk => Kd.fresh' (Kd.R_lt (pxr HO_5)) k_ hk)); (case aO => exact (pxr HO_8)); (case aS => exact (below_size (pxb HB))); (case aL => have := LMc50.out; omega); intro v308 w53 ho hb hg hat; rw [← Ny307.out] at ho; have n0_ := Aside0.mk (Kd.R_after (ok := (fun _ => True)) (by (with_reducible repeat (first | apply Kd.R_alloc | apply Kd.R_drewN | apply Kd.R_drew)); exact Kd.R_mono HO_5.out (fun _ hk => ⟨trivial, hk⟩)) hg hat); have n1_ := Aside0.mk (hb); have n2_ := Aside0.mk (ho); clear HO_5; clear HB; clear HO_8; have HO_5 := n0_; have HB := n1_; have HO309 := n2_; clear n0_ n1_ n2_; clear ho hb hg hat)); try go_wp2_with (first | ((with_reducible refine gate_builtin (b := .append) (xs := #[.tmp 69, .tmp 71]) rfl ?_); at_builtin; refine Kd.R_append (Kd.int .i64) (w0 := w) w.heap.size rfl (.tmp 69) (.tmp 71) 37 3 (.int .i64 0) 8 rfl Try.underlying37 info3 rfl (by decide) (by omega) (.slice (some ad286) x8_3.length co52) x8_3 (rd x5_2 (ji10)) [.int .i64 (rd x5_2 (ji10))] (fun k_ => some k_ ≠ (.slice (some ad285) x5_2.length co51 : Value).ownBlock) (fun _ => False) rfl rfl ?aP (fun _ hk => hk.elim) ?aF ?aO ?aB ?aS ?aL ?_; (case aP => exact rfl); (case aB => exact (pxb HB)); (case aF => exact (fun k_ hk => Kd.fresh' (Kd.R_lt (pxr HO_5)) k_ hk)); (case aO => exact (pxr HO_8)); (case aS => exact (below_size (pxb HB))); (case aL => have := LMc50.out; omega); intro v308 w53 ho hb hg hat; rw [← Ny307.out] at ho; have n0_ := Aside0.mk (Kd.R_after (ok := (fun _ => True)) (by (with_reducible repeat (first | apply Kd.R_alloc | apply Kd.R_drewN | apply Kd.R_drew)); exact Kd.R_mono HO_5.out (fun _ hk => ⟨trivial, hk⟩)) hg hat); have n1_ := Aside0.mk (hb); have n2_ := Aside0.mk (ho); clear HO_5; clear HB; clear HO_8; have HO_5 := n0_; have HB := n1_; have HO309 := n2_; clear n0_ n1_ n2_; clear ho hb hg hat)))
                   go_roundg k3
                   case measure => have := HK1.out; have := HK2.out; have := HK3.out; omega
                   case rel => exact ⟨(y307), (ji10), (by first | rfl | (simp; done) | (simp only [← hji10] <;> (first | rfl | simp)) | (simp [*]; done)), H', ⟨by have := HK1.out; have := HK2.out; have := HK3.out; omega⟩, ⟨by (with_reducible repeat (first | apply Kd.R_alloc | apply Kd.R_drewN | apply Kd.R_drew)); exact Kd.R_mono HO_5.out (fun _ hk => hk.2)⟩, ⟨pxr HO309⟩, ⟨pxb HB⟩⟩
                  ·rw [if_neg c50] at H
                   exact absurd H (by simp)
                ·rw [if_neg c36] at H
                 exact absurd H (by simp)
               ·rw [if_neg c35] at H
                exact absurd H (by simp)
             ·rw [if_neg c14] at H
              exact absurd H (by simp)
            ·rw [if_neg c13] at H
             exact absurd H (by simp)
           ·rw [if_neg c12] at H
            exact absurd H (by simp)
          ·rw [if_neg c11] at H
           exact absurd H (by simp)
         ·rw [if_neg c9] at H
          have c9b0 : decide (x9_3 < (a1.size : Int)) = false := decide_eq_false c9
          clear c9
          have H' := Aside0.mk H
          clear H
          go_wp2
          repeat (go_quiet (fail); try go_wp2)
          go_roundg k3
          case measure => have := HK1.out; have := HK2.out; have := HK3.out; omega
          case rel => exact ⟨(x8_3), (wrap64 (x7_2 + 1)), (by first | rfl | (simp; done) | (simp [*]; done)), H', ⟨by have := HK1.out; have := HK2.out; have := HK3.out; omega⟩, ⟨by (with_reducible repeat (first | apply Kd.R_alloc | apply Kd.R_drewN | apply Kd.R_drew)); exact Kd.R_mono HO_8.out (fun _ hk => trivial)⟩, ⟨pxb HB⟩⟩
      ·rw [if_neg c6] at H
       have c6b0 : decide (x7_2 < (a0.size : Int)) = false := decide_eq_false c6
       clear c6
       by_cases c54 : 0 ≤ (a1.size : Int)
       ·rw [if_pos c54] at H
        have c54b0 : decide (0 ≤ (a1.size : Int)) = true := decide_eq_true c54
        have c54b1 : decide (0 ≤ a1.size) = true := decide_eq_true (by omega)
        clear c54
        by_cases c55 : (a1.size : Int) < (x5_2.length : Int)
        ·rw [if_pos c55] at H
         have c55b0 : decide ((a1.size : Int) < (x5_2.length : Int)) = true := decide_eq_true c55
         have c55b1 : decide (a1.size < x5_2.length) = true := decide_eq_true (Int.ofNat_lt.mp c55)
         clear c55
         obtain rfl := Option.some.inj H
         obtain ⟨Ao56, co56, eo56⟩ := Kd.R_slice HO_5.out
         subst eo56
         have p281 : 0 ≤ ((a1.size : Int) : Int) := of_decide_eq_true (by first | (with_reducible assumption) | assumption)
         have q281 : (a1.size : Int) < (x5_2.length : Int) := of_decide_eq_true (by first | (with_reducible assumption) | assumption)
         obtain ⟨ad281, e281, hx281_0⟩ := Kd.at_int (Kd.R_reads' HO_5.out).2.2 (a1.size : Int) p281 q281
         try simp only [Int.toNat_natCast] at hx281_0
         cases e281
         replace p281 := eq_true p281
         replace q281 := eq_true q281
         go_wp2
         repeat (go_quiet (fail); try go_wp2)
         go_ret
         exact ⟨by first | rfl | (simp [errW_none, errW_some] <;> rfl) | (simp [*, errW_none, errW_some] <;> rfl), pxb HB⟩
        ·rw [if_neg c55] at H
         exact absurd H (by simp)
       ·rw [if_neg c54] at H
        exact absurd H (by simp)

end Go.Proofs.Ytoljmjhmieaggaa.X
