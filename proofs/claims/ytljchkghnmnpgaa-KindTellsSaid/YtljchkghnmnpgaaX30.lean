/- What the program's functions answer, as Lean functions, and that each call does just that; no condition. Written by a program (px.py) out of the translation. -/
import Derived.Test.YtljchkghnmnpgaaX0
namespace Go.Proofs.Ytljchkghnmnpgaa.X
open Go.RowKit Go.Proofs.YtljchkghnmnpgaaW.PrintWords Go.Proofs.YtljchkghnmnpgaaW.PrintLast Go.Proofs.YtljchkghnmnpgaaW.PrintMore
attribute [local go_sem] max2_int min2_int max_two min_two max_three min_three max_four min_four   -- for this text's walks alone
set_option linter.unusedVariables false
set_option linter.unusedSimpArgs false

/-! ### caulkerref07_Type: function 30 -/
mutual
def caulkerref07_Type.j0 : Nat → ByteArray → Int → ByteArray → Int → ByteArray → Option (ByteArray)
 | 0, _, _, _, _, _ => none
 | k + 1, x3, x353000, x353001, x353002, x353003 => caulkerref07_Type.l0 k x3 0 x353000 x353001 x353002 x353003
def caulkerref07_Type.l0 : Nat → ByteArray → Int → Int → ByteArray → Int → ByteArray → Option (ByteArray)
 | 0, _, _, _, _, _, _ => none
 | k + 1, x3, x4, x353000, x353001, x353002, x353003 => if x4 ≤ x353002 then (if x4 > 0 then (if x3.size + 2 ≤ 9223372036854775807 then (caulkerref07_Type.j2 k (x3 ++ (⟨#[91, 93]⟩ : ByteArray)) x4 x353000 x353001 x353002 x353003) else (none)) else (caulkerref07_Type.j2 k x3 x4 x353000 x353001 x353002 x353003)) else (some x3)
def caulkerref07_Type.j2 : Nat → ByteArray → Int → Int → ByteArray → Int → ByteArray → Option (ByteArray)
 | 0, _, _, _, _, _, _ => none
 | k + 1, x3, x4, x353000, x353001, x353002, x353003 => if 0 ≤ x4 then (if x4 < (x353003.size : Int) then (if (bt x353003 x4) = 63 then (if x3.size + 1 ≤ 9223372036854775807 then (if (bt x353003 x4) = 111 then (if 7 + (x3 ++ (⟨#[63]⟩ : ByteArray)).size ≤ 9223372036854775807 then (if ((⟨#[79, 112, 116, 105, 111, 110, 60]⟩ : ByteArray) ++ (x3 ++ (⟨#[63]⟩ : ByteArray))).size + 1 ≤ 9223372036854775807 then (caulkerref07_Type.l0 k (((⟨#[79, 112, 116, 105, 111, 110, 60]⟩ : ByteArray) ++ (x3 ++ (⟨#[63]⟩ : ByteArray))) ++ (⟨#[62]⟩ : ByteArray)) (wrap64 (x4 + 1)) x353000 x353001 x353002 x353003) else (none)) else (none)) else (caulkerref07_Type.l0 k (x3 ++ (⟨#[63]⟩ : ByteArray)) (wrap64 (x4 + 1)) x353000 x353001 x353002 x353003)) else (none)) else (if (bt x353003 x4) = 111 then (if 7 + x3.size ≤ 9223372036854775807 then (if ((⟨#[79, 112, 116, 105, 111, 110, 60]⟩ : ByteArray) ++ x3).size + 1 ≤ 9223372036854775807 then (caulkerref07_Type.l0 k (((⟨#[79, 112, 116, 105, 111, 110, 60]⟩ : ByteArray) ++ x3) ++ (⟨#[62]⟩ : ByteArray)) (wrap64 (x4 + 1)) x353000 x353001 x353002 x353003) else (none)) else (none)) else (caulkerref07_Type.l0 k x3 (wrap64 (x4 + 1)) x353000 x353001 x353002 x353003))) else (none)) else (none)
end
def caulkerref07_Type.f (k : Nat) (a0_0 : Int) (a0_1 : ByteArray) (a0_2 : Int) (a0_3 : ByteArray) : Option (ByteArray) := if a0_0 = 5 then (caulkerref07_Type.j0 k a0_1 a0_0 a0_1 a0_2 a0_3) else ((some (([(⟨#[]⟩ : ByteArray), (⟨#[105, 110, 116]⟩ : ByteArray), (⟨#[98, 111, 111, 108]⟩ : ByteArray), (⟨#[100, 111, 117, 98, 108, 101]⟩ : ByteArray), (⟨#[115, 116, 114]⟩ : ByteArray), (⟨#[]⟩ : ByteArray), (⟨#[118, 111, 105, 100]⟩ : ByteArray)] : List ByteArray) : List ByteArray)).bind fun y353 => (if 0 ≤ a0_0 then (if a0_0 < (y353.length : Int) then (caulkerref07_Type.j0 k (rdOf ByteArray.empty y353 a0_0) a0_0 a0_1 a0_2 a0_3) else (none)) else (none)))
theorem caulkerref07_Type.mono_l : ∀ k, (∀ y0 y1 y2 y3 y4, LeO (caulkerref07_Type.j0 k y0 y1 y2 y3 y4) (caulkerref07_Type.j0 (k + 1) y0 y1 y2 y3 y4)) ∧ (∀ y0 y1 y2 y3 y4 y5, LeO (caulkerref07_Type.l0 k y0 y1 y2 y3 y4 y5) (caulkerref07_Type.l0 (k + 1) y0 y1 y2 y3 y4 y5)) ∧ (∀ y0 y1 y2 y3 y4 y5, LeO (caulkerref07_Type.j2 k y0 y1 y2 y3 y4 y5) (caulkerref07_Type.j2 (k + 1) y0 y1 y2 y3 y4 y5))
 | 0 => ⟨fun _ _ _ _ _ r h => by simp [caulkerref07_Type.j0] at h, fun _ _ _ _ _ _ r h => by simp [caulkerref07_Type.l0] at h, fun _ _ _ _ _ _ r h => by simp [caulkerref07_Type.j2] at h⟩
 | k + 1 => by
  obtain ⟨ih0, ih1, ih2⟩ := caulkerref07_Type.mono_l k
  refine ⟨?_, ?_, ?_⟩
  ·intro y0 y1 y2 y3 y4
   unfold caulkerref07_Type.j0
   repeat' first
   | (with_reducible exact ih0 _ _ _ _ _)
   | (with_reducible exact ih1 _ _ _ _ _ _)
   | (with_reducible exact ih2 _ _ _ _ _ _)
   | (with_reducible exact LeO.refl _)
   | (with_reducible exact LeO.none _)
   | (with_reducible refine LeO.ite ?_ ?_)
   | (with_reducible refine LeO.bind ?_ (fun _ => ?_))
   | exact ih0 _ _ _ _ _
   | exact ih1 _ _ _ _ _ _
   | exact ih2 _ _ _ _ _ _
   | exact LeO.none _
   | refine LeO.ite ?_ ?_
   | refine LeO.bind ?_ (fun _ => ?_)
  ·intro y0 y1 y2 y3 y4 y5
   unfold caulkerref07_Type.l0
   repeat' first
   | (with_reducible exact ih0 _ _ _ _ _)
   | (with_reducible exact ih1 _ _ _ _ _ _)
   | (with_reducible exact ih2 _ _ _ _ _ _)
   | (with_reducible exact LeO.refl _)
   | (with_reducible exact LeO.none _)
   | (with_reducible refine LeO.ite ?_ ?_)
   | (with_reducible refine LeO.bind ?_ (fun _ => ?_))
   | exact ih0 _ _ _ _ _
   | exact ih1 _ _ _ _ _ _
   | exact ih2 _ _ _ _ _ _
   | exact LeO.none _
   | refine LeO.ite ?_ ?_
   | refine LeO.bind ?_ (fun _ => ?_)
  ·intro y0 y1 y2 y3 y4 y5
   unfold caulkerref07_Type.j2
   repeat' first
   | (with_reducible exact ih0 _ _ _ _ _)
   | (with_reducible exact ih1 _ _ _ _ _ _)
   | (with_reducible exact ih2 _ _ _ _ _ _)
   | (with_reducible exact LeO.refl _)
   | (with_reducible exact LeO.none _)
   | (with_reducible refine LeO.ite ?_ ?_)
   | (with_reducible refine LeO.bind ?_ (fun _ => ?_))
   | exact ih0 _ _ _ _ _
   | exact ih1 _ _ _ _ _ _
   | exact ih2 _ _ _ _ _ _
   | exact LeO.none _
   | refine LeO.ite ?_ ?_
   | refine LeO.bind ?_ (fun _ => ?_)
theorem caulkerref07_Type.mono : ∀ a0 a1 a2 a3 k, LeO (caulkerref07_Type.f k a0 a1 a2 a3) (caulkerref07_Type.f (k + 1) a0 a1 a2 a3) := by
 intro a0 a1 a2 a3 k
 obtain ⟨ih0, ih1, ih2⟩ := caulkerref07_Type.mono_l k
 unfold caulkerref07_Type.f
 repeat' first
   | (with_reducible exact ih0 _ _ _ _ _)
   | (with_reducible exact ih1 _ _ _ _ _ _)
   | (with_reducible exact ih2 _ _ _ _ _ _)
   | (with_reducible exact LeO.refl _)
   | (with_reducible exact LeO.none _)
   | (with_reducible refine LeO.ite ?_ ?_)
   | (with_reducible refine LeO.bind ?_ (fun _ => ?_))
   | exact ih0 _ _ _ _ _
   | exact ih1 _ _ _ _ _ _
   | exact ih2 _ _ _ _ _ _
   | exact LeO.none _
   | refine LeO.ite ?_ ?_
   | refine LeO.bind ?_ (fun _ => ?_)
set_option maxHeartbeats 8000000 in
set_option maxRecDepth 100000 in
theorem caulkerref07_Type.calls (k : Nat) (a0_0 : Int) (a0_1 : ByteArray) (a0_2 : Int) (a0_3 : ByteArray) (r : ByteArray) (w : World) (h : caulkerref07_Type.f k a0_0 a0_1 a0_2 a0_3 = some r) :
  Calls Try.prog 30 #[.agg #[.int .i64 a0_0, .string a0_1, .int .i64 a0_2, .string a0_3]] w fun e w' => e = .returned (.string r) ∧ Below w.heap.size w w' := by
 have hu23 := Try.underlying23
 have HB := Aside0.mk (Below.refl w.heap.size w)
 have H : (if a0_0 = 5 then (caulkerref07_Type.j0 k a0_1 a0_0 a0_1 a0_2 a0_3) else ((some (([(⟨#[]⟩ : ByteArray), (⟨#[105, 110, 116]⟩ : ByteArray), (⟨#[98, 111, 111, 108]⟩ : ByteArray), (⟨#[100, 111, 117, 98, 108, 101]⟩ : ByteArray), (⟨#[115, 116, 114]⟩ : ByteArray), (⟨#[]⟩ : ByteArray), (⟨#[118, 111, 105, 100]⟩ : ByteArray)] : List ByteArray) : List ByteArray)).bind fun y353 => (if 0 ≤ a0_0 then (if a0_0 < (y353.length : Int) then (caulkerref07_Type.j0 k (rdOf ByteArray.empty y353 a0_0) a0_0 a0_1 a0_2 a0_3) else (none)) else (none)))) = some r := h
 clear h
 have HC2 := Aside0.mk H
 clear H
 go_enter Try.func30, Try.ntmps30
 go_upto_if 9 with (first | ((with_reducible refine gate_dst (N := 1) rfl ?_); refine box_event ?hg (N := 1) ?hd (cs := #[.int .i64 a0_0, .string a0_1, .int .i64 a0_2, .string a0_3]) (t := 23) ?hr ?_; (case hd => rfl); (case hg => rfl); (case hr => first | (go_simp; done) | (go_simp; rfl)); intro gb352 hg w3 hbox hb; have n0_ := pxs HB hb; have n1_ := Aside0.mk (hbox); have n2_ := Aside0.mk ((by rw [hg]; exact (below_size (pxb HB)) : w.heap.size ≤ gb352)); have n3_ := Aside0.mk ((by rw [hg]; exact (below_size (pxb HB)) : w.heap.size ≤ gb352)); clear HB; have HB := n0_; have BK352 := n1_; have GW352 := n2_; have GE352 := n3_; clear n0_ n1_ n2_ n3_; clear hb hbox hg; have hcz4_0 : w3.cell? ⟨gb352, 0, none⟩ = some (.int .i64 a0_0) := (blk_cell BK352.out 0).trans rfl; have hcz4_1 : w3.cell? ⟨gb352, 1, none⟩ = some (.string a0_1) := (blk_cell BK352.out 1).trans rfl; have hcz4_2 : w3.cell? ⟨gb352, 2, none⟩ = some (.int .i64 a0_2) := (blk_cell BK352.out 2).trans rfl; have hcz4_3 : w3.cell? ⟨gb352, 3, none⟩ = some (.string a0_3) := (blk_cell BK352.out 3).trans rfl; have hfz4_0 := blk_frozen BK352.out 0; have hfz4_1 := blk_frozen BK352.out 1; have hfz4_2 := blk_frozen BK352.out 2; have hfz4_3 := blk_frozen BK352.out 3))
 (try simp only [Act.put, List.setIfInBounds_toArray, List.set_cons_zero, List.set_cons_succ])
 go_cut [3] (fun v3 wc => ∃ (kq : Nat) (x3_1 : ByteArray), v3 = .string x3_1 ∧ Aside0 (caulkerref07_Type.j0 kq x3_1 a0_0 a0_1 a0_2 a0_3 = some r) ∧ Aside0 (kq ≤ k) ∧ Aside0 (wc.heap[gb352]? = some (.cells #[.int .i64 a0_0, .string a0_1, .int .i64 a0_2, .string a0_3] 23 (0, 0))) ∧ Aside0 (Below w.heap.size w wc))
 case first =>
  have H := HC2.out
  clear HC2
  by_cases c5 : a0_0 = 5
  ·rw [if_pos c5] at H
   have c5b0 : (a0_0 == 5) = true := beq_iff_eq.mpr c5
   have c5b1 : (a0_0 != 5) = false := bne_eq_false_iff_eq.mpr c5
   clear c5
   (first | rw [c5b0] | (simp only [i64_w, i32_w]; rw [c5b0]) | skip)
   have H' := Aside0.mk H
   clear H
   go_wp2
   go_meet
   case rel => exact ⟨_, (a0_1), (by first | rfl | (simp; done) | (simp [*]; done)), H', ⟨by first | omega | exact Nat.le_refl _⟩, ⟨pxq BK352⟩, ⟨pxb HB⟩⟩
  ·rw [if_neg c5] at H
   have c5b0 : (a0_0 == 5) = false := beq_eq_false_iff_ne.mpr c5
   have c5b1 : (a0_0 != 5) = true := bne_iff_ne.mpr c5
   (first | rw [c5b0] | (simp only [i64_w, i32_w]; rw [c5b0]) | skip)
   obtain ⟨y353, hy353⟩ : ∃ y_ : List ByteArray, y_ = (([(⟨#[]⟩ : ByteArray), (⟨#[105, 110, 116]⟩ : ByteArray), (⟨#[98, 111, 111, 108]⟩ : ByteArray), (⟨#[100, 111, 117, 98, 108, 101]⟩ : ByteArray), (⟨#[115, 116, 114]⟩ : ByteArray), (⟨#[]⟩ : ByteArray), (⟨#[118, 111, 105, 100]⟩ : ByteArray)] : List ByteArray)) := ⟨_, rfl⟩
   replace H : (if 0 ≤ a0_0 then (if a0_0 < (y353.length : Int) then (caulkerref07_Type.j0 k (rdOf ByteArray.empty y353 a0_0) a0_0 a0_1 a0_2 a0_3) else (none)) else (none)) = some r := by first | (rw [hy353]; with_reducible exact H) | (have H2_ := (Option.bind_some _ _).symm.trans H; rw [hy353]; with_reducible exact H2_) | (have H2_ := (Option.bind_some _ _).symm.trans H; with_reducible exact H2_) | with_reducible exact H | (rw [hy353]; exact H) | exact H
   have Ny353 := Aside0.mk hy353
   clear hy353
   by_cases c6 : 0 ≤ a0_0
   ·rw [if_pos c6] at H
    have c6b0 : decide (0 ≤ a0_0) = true := decide_eq_true c6
    clear c6
    by_cases c7 : a0_0 < (y353.length : Int)
    ·rw [if_pos c7] at H
     have c7b0 : decide (a0_0 < (y353.length : Int)) = true := decide_eq_true c7
     clear c7
     have H' := Aside0.mk H
     clear H
     go_wp2_with (first | ((with_reducible refine gate_dst (N := 10) rfl ?_); refine Kd.R_lit Kd.string _ 9 ?hg (N := 10) ?hd (xs := ([(⟨#[]⟩ : ByteArray), (⟨#[105, 110, 116]⟩ : ByteArray), (⟨#[98, 111, 111, 108]⟩ : ByteArray), (⟨#[100, 111, 117, 98, 108, 101]⟩ : ByteArray), (⟨#[115, 116, 114]⟩ : ByteArray), (⟨#[]⟩ : ByteArray), (⟨#[118, 111, 105, 100]⟩ : ByteArray)] : List ByteArray)) (inner := [.string (⟨#[]⟩ : ByteArray), .string (⟨#[105, 110, 116]⟩ : ByteArray), .string (⟨#[98, 111, 111, 108]⟩ : ByteArray), .string (⟨#[100, 111, 117, 98, 108, 101]⟩ : ByteArray), .string (⟨#[115, 116, 114]⟩ : ByteArray), .string (⟨#[]⟩ : ByteArray), .string (⟨#[118, 111, 105, 100]⟩ : ByteArray)]) (ok := fun _ => True) (okp := fun _ => True) ?hr ?hp (fun _ hk => hk) trivial (Below.refl _ _) (Nat.le_refl _) (by simp) ?_; (case hd => rfl); (case hg => rfl); (case hr => first | (go_simp; done) | (go_simp; rfl)); (case hp => exact (Reps.one (show Kd.M Kd.string _ _ _ (⟨#[]⟩ : ByteArray) [.string (⟨#[]⟩ : ByteArray)] from rfl) (Reps.one (show Kd.M Kd.string _ _ _ (⟨#[105, 110, 116]⟩ : ByteArray) [.string (⟨#[105, 110, 116]⟩ : ByteArray)] from rfl) (Reps.one (show Kd.M Kd.string _ _ _ (⟨#[98, 111, 111, 108]⟩ : ByteArray) [.string (⟨#[98, 111, 111, 108]⟩ : ByteArray)] from rfl) (Reps.one (show Kd.M Kd.string _ _ _ (⟨#[100, 111, 117, 98, 108, 101]⟩ : ByteArray) [.string (⟨#[100, 111, 117, 98, 108, 101]⟩ : ByteArray)] from rfl) (Reps.one (show Kd.M Kd.string _ _ _ (⟨#[115, 116, 114]⟩ : ByteArray) [.string (⟨#[115, 116, 114]⟩ : ByteArray)] from rfl) (Reps.one (show Kd.M Kd.string _ _ _ (⟨#[]⟩ : ByteArray) [.string (⟨#[]⟩ : ByteArray)] from rfl) (Reps.one (show Kd.M Kd.string _ _ _ (⟨#[118, 111, 105, 100]⟩ : ByteArray) [.string (⟨#[118, 111, 105, 100]⟩ : ByteArray)] from rfl) (Reps.none _ _))))))))); intro v354 w8 ho9 hb hg_ hnew_; clear hg_ hnew_; (first | rw [← Ny353.out] at ho9 | (simp only [Int.reduceToNat] at ho9; rw [← Ny353.out] at ho9)); have n0_ := Aside0.mk (Kd.R_lower ho9 (below_size (pxb HB))); have n1_ := pxk BK352 hb; have n2_ := pxs HB hb; clear BK352; clear HB; have HO355 := n0_; have BK352 := n1_; have HB := n2_; clear n0_ n1_ n2_; clear hb ho9; have hcz10_0 : w8.cell? ⟨gb352, 0, none⟩ = some (.int .i64 a0_0) := (blk_cell BK352.out 0).trans rfl; have hcz10_1 : w8.cell? ⟨gb352, 1, none⟩ = some (.string a0_1) := (blk_cell BK352.out 1).trans rfl; have hcz10_2 : w8.cell? ⟨gb352, 2, none⟩ = some (.int .i64 a0_2) := (blk_cell BK352.out 2).trans rfl; have hcz10_3 : w8.cell? ⟨gb352, 3, none⟩ = some (.string a0_3) := (blk_cell BK352.out 3).trans rfl; have hfz10_0 := blk_frozen BK352.out 0; have hfz10_1 := blk_frozen BK352.out 1; have hfz10_2 := blk_frozen BK352.out 2; have hfz10_3 := blk_frozen BK352.out 3; obtain ⟨Ao11, co11, eo11⟩ := Kd.R_slice HO355.out; subst eo11; have p356 : 0 ≤ (a0_0 : Int) := of_decide_eq_true (by first | (with_reducible assumption) | assumption); have q356 : a0_0 < (y353.length : Int) := of_decide_eq_true (by first | (with_reducible assumption) | assumption); obtain ⟨ad356, e356, hx356_0⟩ := Kd.at_string (Kd.R_reads' HO355.out).2.2 a0_0 p356 q356; cases e356; replace p356 := eq_true p356; replace q356 := eq_true q356))
     go_meet
     case rel => exact ⟨_, (rdOf ByteArray.empty y353 a0_0), (by first | rfl | (simp; done) | (simp [*]; done)), H', ⟨by first | omega | exact Nat.le_refl _⟩, ⟨pxq BK352⟩, ⟨pxb HB⟩⟩
    ·rw [if_neg c7] at H
     exact absurd H (by simp)
   ·rw [if_neg c6] at H
    exact absurd H (by simp)
 case rest =>
  clear HC2
  try clear p2
  try clear c3
  try clear p3
  try clear q3
  try clear hx3
  try clear c5
  try clear c5b0
  try clear c5b1
  try clear c6
  try clear c6b0
  try clear c7
  try clear c7b0
  try clear hcz10_0
  try clear hcz10_1
  try clear hcz10_2
  try clear hcz10_3
  try clear hcz4_0
  try clear hcz4_1
  try clear hcz4_2
  try clear hcz4_3
  try clear hfz10_0
  try clear hfz10_1
  try clear hfz10_2
  try clear hfz10_3
  try clear hfz4_0
  try clear hfz4_1
  try clear hfz4_2
  try clear hfz4_3
  try clear hx356_0
  try clear p356
  try clear q356
  obtain ⟨kq, x3_1, rfl, HA, HJ1, BK352, HB⟩ := hcut
  cases kq with
  | zero => exact absurd HA.out (by simp [caulkerref07_Type.j0])
  | succ kj1 =>
   have H := HA.out
   clear HA
   simp only [caulkerref07_Type.j0] at H
   have H' := Aside0.mk H
   clear H
   go_wp2
   go_loopg [3, 4] kj1 (fun kq v3 v4 w' => ∃ (x3_2 : ByteArray) (x4_2 : Int), v3 = .string x3_2 ∧ v4 = .int .i64 x4_2 ∧ Aside0 (caulkerref07_Type.l0 kq x3_2 x4_2 a0_0 a0_1 a0_2 a0_3 = some r) ∧ Aside0 (kq ≤ kj1) ∧ Aside0 (w'.heap[gb352]? = some (.cells #[.int .i64 a0_0, .string a0_1, .int .i64 a0_2, .string a0_3] 23 (0, 0))) ∧ Aside0 (Below w.heap.size w w'))
   case atStart => exact ⟨(x3_1), (0), (by first | rfl | (simp; done) | (simp [*]; done)), (by first | rfl | (simp; done) | (simp [*]; done)), H', ⟨Nat.le_refl _⟩, ⟨pxq BK352⟩, ⟨pxb HB⟩⟩
   case round =>
    clear H'
    try clear p2
    try clear c3
    try clear p3
    try clear q3
    try clear hx3
    try clear c5
    try clear c5b0
    try clear c5b1
    try clear c6
    try clear c6b0
    try clear c7
    try clear c7b0
    try clear hcz10_0
    try clear hcz10_1
    try clear hcz10_2
    try clear hcz10_3
    try clear hcz4_0
    try clear hcz4_1
    try clear hcz4_2
    try clear hcz4_3
    try clear hfz10_0
    try clear hfz10_1
    try clear hfz10_2
    try clear hfz10_3
    try clear hfz4_0
    try clear hfz4_1
    try clear hfz4_2
    try clear hfz4_3
    try clear hx356_0
    try clear p2
    try clear p3
    try clear p356
    try clear q3
    try clear q356
    obtain ⟨x3_2, x4_2, rfl, rfl, HA, HK2, BK352, HB⟩ := hrel
    cases gk with
    | zero => exact absurd HA.out (by simp [caulkerref07_Type.l0])
    | succ k2 =>
     have H := HA.out
     clear HA
     simp only [caulkerref07_Type.l0] at H
     by_cases c12 : x4_2 ≤ a0_2
     ·rw [if_pos c12] at H
      have c12b0 : decide (x4_2 ≤ a0_2) = true := decide_eq_true c12
      clear c12
      have HC13 := Aside0.mk H
      clear H
      have hcz14_0 : wr.cell? ⟨gb352, 0, none⟩ = some (.int .i64 a0_0) := (blk_cell BK352.out 0).trans rfl
      have hcz14_1 : wr.cell? ⟨gb352, 1, none⟩ = some (.string a0_1) := (blk_cell BK352.out 1).trans rfl
      have hcz14_2 : wr.cell? ⟨gb352, 2, none⟩ = some (.int .i64 a0_2) := (blk_cell BK352.out 2).trans rfl
      have hcz14_3 : wr.cell? ⟨gb352, 3, none⟩ = some (.string a0_3) := (blk_cell BK352.out 3).trans rfl
      have hfz14_0 := blk_frozen BK352.out 0
      have hfz14_1 := blk_frozen BK352.out 1
      have hfz14_2 := blk_frozen BK352.out 2
      have hfz14_3 := blk_frozen BK352.out 3
      go_upto_if 22 with (fail)
      go_cut [3] (fun v3 wc => ∃ (kq : Nat) (x3_12 : ByteArray), v3 = .string x3_12 ∧ Aside0 (caulkerref07_Type.j2 kq x3_12 x4_2 a0_0 a0_1 a0_2 a0_3 = some r) ∧ Aside0 (kq ≤ k2) ∧ Aside0 (wc.heap[gb352]? = some (.cells #[.int .i64 a0_0, .string a0_1, .int .i64 a0_2, .string a0_3] 23 (0, 0))) ∧ Aside0 (Below w.heap.size w wc))
      case first =>
       have H := HC13.out
       clear HC13
       by_cases c15 : x4_2 > 0
       ·rw [if_pos c15] at H
        have c15b0 : decide (0 < x4_2) = true := decide_eq_true c15
        clear c15
        (first | rw [c15b0] | (simp only [i64_w, i32_w]; rw [c15b0]) | skip)
        by_cases c16 : x3_2.size + 2 ≤ 9223372036854775807
        ·rw [if_pos c16] at H
         have c16b0 := eq_true c16
         have c16b1 : decide (x3_2.size + 2 ≤ 9223372036854775807) = true := decide_eq_true c16
         try have c16b2 : (9223372036854775807 < x3_2.size + 2) = False := eq_false (Nat.not_lt.2 c16)
         have H' := Aside0.mk H
         clear H
         go_wp2
         go_meet
         case rel => exact ⟨_, (x3_2 ++ (⟨#[91, 93]⟩ : ByteArray)), (by first | rfl | (simp; done) | (simp [*]; done)), H', ⟨by have := HJ1.out; have := HK2.out; first | omega | exact Nat.le_refl _⟩, ⟨pxq BK352⟩, ⟨pxb HB⟩⟩
        ·rw [if_neg c16] at H
         exact absurd H (by simp)
       ·rw [if_neg c15] at H
        have c15b0 : decide (0 < x4_2) = false := decide_eq_false c15
        clear c15
        (first | rw [c15b0] | (simp only [i64_w, i32_w]; rw [c15b0]) | skip)
        have H' := Aside0.mk H
        clear H
        go_wp2
        go_meet
        case rel => exact ⟨_, (x3_2), (by first | rfl | (simp; done) | (simp [*]; done)), H', ⟨by have := HJ1.out; have := HK2.out; first | omega | exact Nat.le_refl _⟩, ⟨pxq BK352⟩, ⟨pxb HB⟩⟩
      case rest =>
       clear HC13
       try clear c1
       try clear p2
       try clear c3
       try clear p3
       try clear q3
       try clear hx3
       try clear c5
       try clear c5b0
       try clear c5b1
       try clear c6
       try clear c6b0
       try clear c7
       try clear c7b0
       try clear c12
       try clear c12b0
       try clear c15
       try clear c15b0
       try clear c16
       try clear c16b0
       try clear c16b1
       try clear c16b2
       try clear hcz10_0
       try clear hcz10_1
       try clear hcz10_2
       try clear hcz10_3
       try clear hcz14_0
       try clear hcz14_1
       try clear hcz14_2
       try clear hcz14_3
       try clear hcz4_0
       try clear hcz4_1
       try clear hcz4_2
       try clear hcz4_3
       try clear hfz10_0
       try clear hfz10_1
       try clear hfz10_2
       try clear hfz10_3
       try clear hfz14_0
       try clear hfz14_1
       try clear hfz14_2
       try clear hfz14_3
       try clear hfz4_0
       try clear hfz4_1
       try clear hfz4_2
       try clear hfz4_3
       try clear hx356_0
       try clear p2
       try clear p3
       try clear p356
       try clear q3
       try clear q356
       obtain ⟨kq, x3_12, rfl, HA, HJ12, BK352, HB⟩ := hcut
       cases kq with
       | zero => exact absurd HA.out (by simp [caulkerref07_Type.j2])
       | succ kj12 =>
        have H := HA.out
        clear HA
        simp only [caulkerref07_Type.j2] at H
        by_cases c17 : 0 ≤ x4_2
        ·rw [if_pos c17] at H
         have c17b0 : decide (0 ≤ x4_2) = true := decide_eq_true c17
         clear c17
         by_cases c18 : x4_2 < (a0_3.size : Int)
         ·rw [if_pos c18] at H
          have c18b0 : decide (x4_2 < (a0_3.size : Int)) = true := decide_eq_true c18
          clear c18
          by_cases c20 : (bt a0_3 x4_2) = 63
          ·rw [if_pos c20] at H
           have c20b0 : ((bt a0_3 x4_2) == 63) = true := beq_iff_eq.mpr c20
           have c20b1 : ((bt a0_3 x4_2) != 63) = false := bne_eq_false_iff_eq.mpr c20
           clear c20
           by_cases c21 : x3_12.size + 1 ≤ 9223372036854775807
           ·rw [if_pos c21] at H
            have c21b0 := eq_true c21
            have c21b1 : decide (x3_12.size + 1 ≤ 9223372036854775807) = true := decide_eq_true c21
            try have c21b2 : (9223372036854775807 < x3_12.size + 1) = False := eq_false (Nat.not_lt.2 c21)
            by_cases c23 : (bt a0_3 x4_2) = 111
            ·rw [if_pos c23] at H
             have c23b0 : ((bt a0_3 x4_2) == 111) = true := beq_iff_eq.mpr c23
             exact absurd ((beq_iff_eq.mp c20b0).symm.trans (beq_iff_eq.mp c23b0)) (by decide)
            ·rw [if_neg c23] at H
             have c23b0 : ((bt a0_3 x4_2) == 111) = false := beq_eq_false_iff_ne.mpr c23
             have c23b1 : ((bt a0_3 x4_2) != 111) = true := bne_iff_ne.mpr c23
             have H' := Aside0.mk H
             clear H
             have hcz27_0 : wc.cell? ⟨gb352, 0, none⟩ = some (.int .i64 a0_0) := (blk_cell BK352.out 0).trans rfl
             have hcz27_1 : wc.cell? ⟨gb352, 1, none⟩ = some (.string a0_1) := (blk_cell BK352.out 1).trans rfl
             have hcz27_2 : wc.cell? ⟨gb352, 2, none⟩ = some (.int .i64 a0_2) := (blk_cell BK352.out 2).trans rfl
             have hcz27_3 : wc.cell? ⟨gb352, 3, none⟩ = some (.string a0_3) := (blk_cell BK352.out 3).trans rfl
             have hfz27_0 := blk_frozen BK352.out 0
             have hfz27_1 := blk_frozen BK352.out 1
             have hfz27_2 := blk_frozen BK352.out 2
             have hfz27_3 := blk_frozen BK352.out 3
             have p19 : 0 ≤ (x4_2 : Int) := of_decide_eq_true (by first | (with_reducible assumption) | assumption)
             have q19 : x4_2 < (a0_3.size : Int) := of_decide_eq_true (by first | (with_reducible assumption) | assumption)
             have hx19 := bt_at a0_3 x4_2
             replace p19 := eq_true p19
             replace q19 := eq_true q19
             have p22 : 0 ≤ (x4_2 : Int) := of_decide_eq_true (by first | (with_reducible assumption) | assumption)
             have q22 : x4_2 < (a0_3.size : Int) := of_decide_eq_true (by first | (with_reducible assumption) | assumption)
             have hx22 := bt_at a0_3 x4_2
             replace p22 := eq_true p22
             replace q22 := eq_true q22
             go_wp2
             go_roundg kj12
             case measure => have := HJ1.out; have := HK2.out; have := HJ12.out; omega
             case rel => exact ⟨(x3_12 ++ (⟨#[63]⟩ : ByteArray)), (wrap64 (x4_2 + 1)), (by first | rfl | (simp; done) | (simp [*]; done)), (by first | rfl | (simp; done) | (simp [*]; done)), H', ⟨by have := HJ1.out; have := HK2.out; have := HJ12.out; omega⟩, ⟨pxq BK352⟩, ⟨pxb HB⟩⟩
           ·rw [if_neg c21] at H
            exact absurd H (by simp)
          ·rw [if_neg c20] at H
           have c20b0 : ((bt a0_3 x4_2) == 63) = false := beq_eq_false_iff_ne.mpr c20
           have c20b1 : ((bt a0_3 x4_2) != 63) = true := bne_iff_ne.mpr c20
           by_cases c29 : (bt a0_3 x4_2) = 111
           ·rw [if_pos c29] at H
            have c29b0 : ((bt a0_3 x4_2) == 111) = true := beq_iff_eq.mpr c29
            have c29b1 : ((bt a0_3 x4_2) != 111) = false := bne_eq_false_iff_eq.mpr c29
            clear c29
            by_cases c30 : 7 + x3_12.size ≤ 9223372036854775807
            ·rw [if_pos c30] at H
             have c30b0 := eq_true c30
             have c30b1 : decide (7 + x3_12.size ≤ 9223372036854775807) = true := decide_eq_true c30
             try have c30b2 : (9223372036854775807 < 7 + x3_12.size) = False := eq_false (Nat.not_lt.2 c30)
             by_cases c31 : ((⟨#[79, 112, 116, 105, 111, 110, 60]⟩ : ByteArray) ++ x3_12).size + 1 ≤ 9223372036854775807
             ·rw [if_pos c31] at H
              have c31b0 := eq_true c31
              have c31b1 : decide (((⟨#[79, 112, 116, 105, 111, 110, 60]⟩ : ByteArray) ++ x3_12).size + 1 ≤ 9223372036854775807) = true := decide_eq_true c31
              try have c31b2 : (9223372036854775807 < ((⟨#[79, 112, 116, 105, 111, 110, 60]⟩ : ByteArray) ++ x3_12).size + 1) = False := eq_false (Nat.not_lt.2 c31)
              try have c31b6 : (7 + x3_12.size + 1 ≤ 9223372036854775807) = True := eq_true (by have h_ := c31; rw [ByteArray.size_append] at h_; exact h_)
              try have c31b7 : (9223372036854775807 < 7 + x3_12.size + 1) = False := eq_false (Nat.not_lt.2 (by have h_ := c31; rw [ByteArray.size_append] at h_; exact h_))
              have H' := Aside0.mk H
              clear H
              have hcz32_0 : wc.cell? ⟨gb352, 0, none⟩ = some (.int .i64 a0_0) := (blk_cell BK352.out 0).trans rfl
              have hcz32_1 : wc.cell? ⟨gb352, 1, none⟩ = some (.string a0_1) := (blk_cell BK352.out 1).trans rfl
              have hcz32_2 : wc.cell? ⟨gb352, 2, none⟩ = some (.int .i64 a0_2) := (blk_cell BK352.out 2).trans rfl
              have hcz32_3 : wc.cell? ⟨gb352, 3, none⟩ = some (.string a0_3) := (blk_cell BK352.out 3).trans rfl
              have hfz32_0 := blk_frozen BK352.out 0
              have hfz32_1 := blk_frozen BK352.out 1
              have hfz32_2 := blk_frozen BK352.out 2
              have hfz32_3 := blk_frozen BK352.out 3
              have p19 : 0 ≤ (x4_2 : Int) := of_decide_eq_true (by first | (with_reducible assumption) | assumption)
              have q19 : x4_2 < (a0_3.size : Int) := of_decide_eq_true (by first | (with_reducible assumption) | assumption)
              have hx19 := bt_at a0_3 x4_2
              replace p19 := eq_true p19
              replace q19 := eq_true q19
              have p28 : 0 ≤ (x4_2 : Int) := of_decide_eq_true (by first | (with_reducible assumption) | assumption)
              have q28 : x4_2 < (a0_3.size : Int) := of_decide_eq_true (by first | (with_reducible assumption) | assumption)
              have hx28 := bt_at a0_3 x4_2
              replace p28 := eq_true p28
              replace q28 := eq_true q28
              go_wp2
              go_roundg kj12
              case measure => have := HJ1.out; have := HK2.out; have := HJ12.out; omega
              case rel => exact ⟨(((⟨#[79, 112, 116, 105, 111, 110, 60]⟩ : ByteArray) ++ x3_12) ++ (⟨#[62]⟩ : ByteArray)), (wrap64 (x4_2 + 1)), (by first | rfl | (simp; done) | (simp [*]; done)), (by first | rfl | (simp; done) | (simp [*]; done)), H', ⟨by have := HJ1.out; have := HK2.out; have := HJ12.out; omega⟩, ⟨pxq BK352⟩, ⟨pxb HB⟩⟩
             ·rw [if_neg c31] at H
              exact absurd H (by simp)
            ·rw [if_neg c30] at H
             exact absurd H (by simp)
           ·rw [if_neg c29] at H
            have c29b0 : ((bt a0_3 x4_2) == 111) = false := beq_eq_false_iff_ne.mpr c29
            have c29b1 : ((bt a0_3 x4_2) != 111) = true := bne_iff_ne.mpr c29
            have H' := Aside0.mk H
            clear H
            have hcz33_0 : wc.cell? ⟨gb352, 0, none⟩ = some (.int .i64 a0_0) := (blk_cell BK352.out 0).trans rfl
            have hcz33_1 : wc.cell? ⟨gb352, 1, none⟩ = some (.string a0_1) := (blk_cell BK352.out 1).trans rfl
            have hcz33_2 : wc.cell? ⟨gb352, 2, none⟩ = some (.int .i64 a0_2) := (blk_cell BK352.out 2).trans rfl
            have hcz33_3 : wc.cell? ⟨gb352, 3, none⟩ = some (.string a0_3) := (blk_cell BK352.out 3).trans rfl
            have hfz33_0 := blk_frozen BK352.out 0
            have hfz33_1 := blk_frozen BK352.out 1
            have hfz33_2 := blk_frozen BK352.out 2
            have hfz33_3 := blk_frozen BK352.out 3
            have p19 : 0 ≤ (x4_2 : Int) := of_decide_eq_true (by first | (with_reducible assumption) | assumption)
            have q19 : x4_2 < (a0_3.size : Int) := of_decide_eq_true (by first | (with_reducible assumption) | assumption)
            have hx19 := bt_at a0_3 x4_2
            replace p19 := eq_true p19
            replace q19 := eq_true q19
            have p28 : 0 ≤ (x4_2 : Int) := of_decide_eq_true (by first | (with_reducible assumption) | assumption)
            have q28 : x4_2 < (a0_3.size : Int) := of_decide_eq_true (by first | (with_reducible assumption) | assumption)
            have hx28 := bt_at a0_3 x4_2
            replace p28 := eq_true p28
            replace q28 := eq_true q28
            go_wp2
            go_roundg kj12
            case measure => have := HJ1.out; have := HK2.out; have := HJ12.out; omega
            case rel => exact ⟨(x3_12), (wrap64 (x4_2 + 1)), (by first | rfl | (simp; done) | (simp [*]; done)), (by first | rfl | (simp; done) | (simp [*]; done)), H', ⟨by have := HJ1.out; have := HK2.out; have := HJ12.out; omega⟩, ⟨pxq BK352⟩, ⟨pxb HB⟩⟩
         ·rw [if_neg c18] at H
          exact absurd H (by simp)
        ·rw [if_neg c17] at H
         exact absurd H (by simp)
     ·rw [if_neg c12] at H
      have c12b0 : decide (x4_2 ≤ a0_2) = false := decide_eq_false c12
      clear c12
      obtain rfl := Option.some.inj H
      have hcz34_0 : wr.cell? ⟨gb352, 0, none⟩ = some (.int .i64 a0_0) := (blk_cell BK352.out 0).trans rfl
      have hcz34_1 : wr.cell? ⟨gb352, 1, none⟩ = some (.string a0_1) := (blk_cell BK352.out 1).trans rfl
      have hcz34_2 : wr.cell? ⟨gb352, 2, none⟩ = some (.int .i64 a0_2) := (blk_cell BK352.out 2).trans rfl
      have hcz34_3 : wr.cell? ⟨gb352, 3, none⟩ = some (.string a0_3) := (blk_cell BK352.out 3).trans rfl
      have hfz34_0 := blk_frozen BK352.out 0
      have hfz34_1 := blk_frozen BK352.out 1
      have hfz34_2 := blk_frozen BK352.out 2
      have hfz34_3 := blk_frozen BK352.out 3
      go_wp2
      go_ret
      exact ⟨by first | rfl | (simp [errW_none, errW_some] <;> rfl) | (simp [*, errW_none, errW_some] <;> rfl), pxb HB⟩

end Go.Proofs.Ytljchkghnmnpgaa.X
