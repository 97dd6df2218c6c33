/- What the program's functions answer, as Lean functions, and that each call does just that; no condition. Written by a program (px.py) out of the translation. -/
import Derived.Test.YtefgfnhhoidbdaaX0
import Derived.Test.YtefgfnhhoidbdaaShort3
namespace Go.Proofs.Ytefgfnhhoidbdaa.X
open Go.RowKit Go.Proofs.YtefgfnhhoidbdaaW.PrintWords Go.Proofs.YtefgfnhhoidbdaaW.PrintLast Go.Proofs.YtefgfnhhoidbdaaW.PrintMore
attribute [local go_sem] max2_int min2_int max_two min_two max_three min_three max_four min_four   -- for this text's walks alone
set_option linter.unusedVariables false
set_option linter.unusedSimpArgs false

/-! ### graph_Edge_43: function 43 -/
def graph_Edge_43.l0 : Nat → List (S29) → Int → Int → Option ((List (S29)))
 | 0, _, _, _ => none
 | k + 1, x0, x2, x3 => if x2 < x3 then (if 0 ≤ x3 then (if x3 < (x0.length : Int) then (if 0 ≤ x2 then (if x2 < (x0.length : Int) then (graph_Edge_43.l0 k ((x0.set (x2 : Int).toNat (⟨(rd_T29 x0 x3).f0, (rd_T29 x0 x3).f1, (rd_T29 x0 x3).f2, (rd_T29 x0 x3).f3⟩ : S29)).set (x3 : Int).toNat (⟨(rd_T29 x0 x2).f0, (rd_T29 x0 x2).f1, (rd_T29 x0 x2).f2, (rd_T29 x0 x2).f3⟩ : S29)) (wrap64 (x2 + 1)) (wrap64 (x3 - 1))) else (none)) else (none)) else (none)) else (none)) else (some x0)
def graph_Edge_43.f (k : Nat) (l0 : List (S29)) : Option ((List (S29))) := graph_Edge_43.l0 k l0 0 (wrap64 ((l0.length : Int) - 1))
theorem graph_Edge_43.mono_l : ∀ k, (∀ y0 y1 y2, LeO (graph_Edge_43.l0 k y0 y1 y2) (graph_Edge_43.l0 (k + 1) y0 y1 y2))
 | 0 => fun _ _ _ r h => by simp [graph_Edge_43.l0] at h
 | k + 1 => by
  have ih0 := graph_Edge_43.mono_l k
  ·intro y0 y1 y2
   unfold graph_Edge_43.l0
   repeat' first
   | (with_reducible exact ih0 _ _ _)
   | (with_reducible exact LeO.refl _)
   | (with_reducible exact LeO.none _)
   | (with_reducible refine LeO.ite ?_ ?_)
   | (with_reducible refine LeO.bind ?_ (fun _ => ?_))
   | exact ih0 _ _ _
   | exact LeO.none _
   | refine LeO.ite ?_ ?_
   | refine LeO.bind ?_ (fun _ => ?_)
theorem graph_Edge_43.mono : ∀ a0 k, LeO (graph_Edge_43.f k a0) (graph_Edge_43.f (k + 1) a0) := by
 intro a0 k
 have ih0 := graph_Edge_43.mono_l k
 unfold graph_Edge_43.f
 repeat' first
   | (with_reducible exact ih0 _ _ _)
   | (with_reducible exact LeO.refl _)
   | (with_reducible exact LeO.none _)
   | (with_reducible refine LeO.ite ?_ ?_)
   | (with_reducible refine LeO.bind ?_ (fun _ => ?_))
   | exact ih0 _ _ _
   | exact LeO.none _
   | refine LeO.ite ?_ ?_
   | refine LeO.bind ?_ (fun _ => ?_)
def graph_Edge_43.T3 : Bool × List (List Nat × List Nat) := (true, [([], []), ([], []), ([], []), ([], []), ([], []), ([], []), ([4, 5], [4, 5]), ([6], [6]), ([], []), ([], []), ([8, 9], [8, 9]), ([10], [10]), ([0, 1, 0, 1, 4, 5, 6, 7, 11], [0, 1]), ([12, 7, 0, 1, 4, 5, 6, 7, 11], [7, 12]), ([2, 3, 0, 1, 2, 3, 4, 5, 6, 7, 8, 9, 10, 11, 12, 13], [2, 3]), ([14, 11, 13, 0, 1, 2, 3, 4, 5, 6, 7, 8, 9, 10, 11, 12, 13], [11, 14])])
def graph_Edge_43.B3 : List Nat := [0, 0, 0, 0, 0, 0, 48, 112, 0, 0, 768, 1792, 4083, 8179, 16383, 32767]
theorem graph_Edge_43.tab3 : rtab .any (opsOf Try.f43 3) = graph_Edge_43.T3 := by kernel_rfl
theorem graph_Edge_43.bits3 : waitsOk graph_Edge_43.T3.2 graph_Edge_43.B3 = true := by kernel_rfl
set_option maxHeartbeats 8000000 in
set_option maxRecDepth 100000 in
theorem graph_Edge_43.calls (k : Nat) (P0_ : Nat → Prop) (u9000_ : Value) (l0 : List (S29)) (r : List (S29)) (w0 w : World) (hB : Below w0.heap.size w0 w) (ho0 : Kd.R k29 29 w w0.heap.size P0_ u9000_ l0) (h : graph_Edge_43.f k l0 = some r) :
  Calls Try.prog 43 #[u9000_] w fun e w' => e = .returned (.tuple #[]) ∧ Kd.R k29 29 w' w0.heap.size (fun k_ => (P0_ k_ ∨ w.heap.size ≤ k_)) u9000_ r ∧ Below w0.heap.size w0 w' ∧ Kept w w' (fun k_ => P0_ k_) := by
 have hu29 := Try.underlying29
 have HO0 := Aside0.mk (show Kd.R k29 29 w w0.heap.size (fun k_ => (P0_ k_ ∨ w.heap.size ≤ k_)) u9000_ l0 from Kd.R_mono ho0 (fun k_ hk => (.inl hk)))
 have HK := Aside0.mk (Kept.refl w (fun k_ => P0_ k_))
 have HW0 := Aside0.mk hB.size
 have HB := Aside0.mk hB
 clear hB
 have H : (graph_Edge_43.l0 k l0 0 (wrap64 ((l0.length : Int) - 1))) = some r := h
 clear h
 have H' := Aside0.mk H
 clear H
 obtain ⟨Ao2, co2, eo2⟩ := Kd.R_slice HO0.out
 subst eo2
 go_enter Try.func43, Try.ntmps43
 go_wp2
 go_loopg [2, 3] k (fun kq v2 v3 w' => ∃ (x0_1 : List (S29)) (x2_1 : Int) (x3_1 : Int), v2 = .int .i64 x2_1 ∧ v3 = .int .i64 x3_1 ∧ Aside0 (graph_Edge_43.l0 kq x0_1 x2_1 x3_1 = some r) ∧ Aside0 (kq ≤ k) ∧ Aside0 (Kd.R k29 29 w' w0.heap.size (fun k_ => (P0_ k_ ∨ w.heap.size ≤ k_)) (.slice Ao2 l0.length co2) x0_1) ∧ Aside0 (Kept w w' (fun k_ => P0_ k_)) ∧ Aside0 (Below w0.heap.size w0 w'))
 case atStart => exact ⟨(l0), (0), (wrap64 ((l0.length : Int) - 1)), (by first | rfl | (simp; done) | (simp [*]; done)), (by first | rfl | (simp; done) | (simp [*]; done)), H', ⟨Nat.le_refl _⟩, ⟨pxr HO0⟩, ⟨by repeat (first | (with_reducible first | exact HK.out | apply Kept.alloc | apply Kept.drewN | apply Kept.drew) | exact HK.out)⟩, ⟨pxb HB⟩⟩
 case round =>
  clear H'
  try clear p2
  obtain ⟨x0_1, x2_1, x3_1, rfl, rfl, HA, HK1, HO_0, HK, HB⟩ := hrel
  have hl0_1 := (Kd.R_reads' HO_0.out).1
  rw [hl0_1] at HO_0
  (try simp only [hl0_1])
  cases gk with
  | zero => exact absurd HA.out (by simp [graph_Edge_43.l0])
  | succ k1 =>
   have H := HA.out
   clear HA
   simp only [graph_Edge_43.l0] at H
   by_cases c3 : x2_1 < x3_1
   ·rw [if_pos c3] at H
    have c3b0 : decide (x2_1 < x3_1) = true := decide_eq_true c3
    clear c3
    by_cases c4 : 0 ≤ x3_1
    ·rw [if_pos c4] at H
     have c4b0 : decide (0 ≤ x3_1) = true := decide_eq_true c4
     clear c4
     by_cases c5 : x3_1 < (x0_1.length : Int)
     ·rw [if_pos c5] at H
      have c5b0 : decide (x3_1 < (x0_1.length : Int)) = true := decide_eq_true c5
      clear c5
      by_cases c6 : 0 ≤ x2_1
      ·rw [if_pos c6] at H
       have c6b0 : decide (0 ≤ x2_1) = true := decide_eq_true c6
       clear c6
       by_cases c7 : x2_1 < (x0_1.length : Int)
       ·rw [if_pos c7] at H
        have c7b0 : decide (x2_1 < (x0_1.length : Int)) = true := decide_eq_true c7
        clear c7
        obtain ⟨y112, hy112⟩ : ∃ y_ : List (S29), y_ = (x0_1.set (x2_1 : Int).toNat (⟨(rd_T29 x0_1 x3_1).f0, (rd_T29 x0_1 x3_1).f1, (rd_T29 x0_1 x3_1).f2, (rd_T29 x0_1 x3_1).f3⟩ : S29)) := ⟨_, rfl⟩
        replace H : (graph_Edge_43.l0 k1 (y112.set (x3_1 : Int).toNat (⟨(rd_T29 x0_1 x2_1).f0, (rd_T29 x0_1 x2_1).f1, (rd_T29 x0_1 x2_1).f2, (rd_T29 x0_1 x2_1).f3⟩ : S29)) (wrap64 (x2_1 + 1)) (wrap64 (x3_1 - 1))) = some r := by first | (rw [hy112]; with_reducible exact H) | (have H2_ := (Option.bind_some _ _).symm.trans H; rw [hy112]; with_reducible exact H2_) | (have H2_ := (Option.bind_some _ _).symm.trans H; with_reducible exact H2_) | with_reducible exact H | (rw [hy112]; exact H) | exact H
        have Ny112 := Aside0.mk hy112
        clear hy112
        obtain ⟨y113, hy113⟩ : ∃ y_ : List (S29), y_ = (y112.set (x3_1 : Int).toNat (⟨(rd_T29 x0_1 x2_1).f0, (rd_T29 x0_1 x2_1).f1, (rd_T29 x0_1 x2_1).f2, (rd_T29 x0_1 x2_1).f3⟩ : S29)) := ⟨_, rfl⟩
        replace H : (graph_Edge_43.l0 k1 y113 (wrap64 (x2_1 + 1)) (wrap64 (x3_1 - 1))) = some r := by first | (rw [hy113]; with_reducible exact H) | (have H2_ := (Option.bind_some _ _).symm.trans H; rw [hy113]; with_reducible exact H2_) | (have H2_ := (Option.bind_some _ _).symm.trans H; with_reducible exact H2_) | with_reducible exact H | (rw [hy113]; exact H) | exact H
        have Ny113 := Aside0.mk hy113
        clear hy113
        have H' := Aside0.mk H
        clear H
        try go_wp2
        have n0_ := Aside0.mk (Kd.R_drew HO_0.out)
        have n1_ := Aside0.mk (Kept.drew HK.out)
        have n2_ := Aside0.mk (below_drew1 HB.out)
        clear HO_0
        clear HK
        clear HB
        have HO_0 := n0_
        have HK := n1_
        have HB := n2_
        clear n0_ n1_ n2_
        have p110 : 0 ≤ (x3_1 : Int) := of_decide_eq_true (by first | (with_reducible assumption) | assumption)
        have q110 : x3_1 < (x0_1.length : Int) := of_decide_eq_true (by first | (with_reducible assumption) | assumption)
        obtain ⟨ad110, e110, hx110_0, hx110_1, hx110_2, hx110_3⟩ := at_T29 (Kd.R_reads' HO_0.out).2.2 x3_1 p110 q110
        cases e110
        replace p110 := eq_true p110
        replace q110 := eq_true q110
        have p111 : 0 ≤ (x2_1 : Int) := of_decide_eq_true (by first | (with_reducible assumption) | assumption)
        have q111 : x2_1 < (x0_1.length : Int) := of_decide_eq_true (by first | (with_reducible assumption) | assumption)
        obtain ⟨ad111, e111, hx111_0, hx111_1, hx111_2, hx111_3⟩ := at_T29 (Kd.R_reads' HO_0.out).2.2 x2_1 p111 q111
        obtain rfl : ad110 = ad111 := (by injection e111)
        replace p111 := eq_true p111
        replace q111 := eq_true q111
        have p8 : 0 ≤ (x2_1 : Int) := of_decide_eq_true (by first | (with_reducible assumption) | assumption)
        have q8 : (x2_1 : Int) < ((x0_1.length : Int) : Int) := of_decide_eq_true (by first | (with_reducible assumption) | assumption)
        obtain ⟨go8, co8, eo8, gb8, gl8, cl8, HG8⟩ := Kd.R_form HO_0.out (by omega)
        (first | cases eo8 | (injection eo8 with ea_ en_ ec_; (first | subst ea_ | (injection ea_ with ea_; subst ea_)); subst ec_; clear en_))
        have GB8 := Aside0.mk gb8
        have GG8 := Aside0.mk HG8
        clear gb8 gl8 HG8
        have HMgo8 := Aside0.mk (show (P0_ go8 ∨ w.heap.size ≤ go8) from (HO_0.out.1 _ rfl))
        (first | simp only [add_plain] at hx110_0 | skip)
        (first | simp only [add_plain] at hx110_1 | skip)
        (first | simp only [add_plain] at hx110_2 | skip)
        (first | simp only [add_plain] at hx110_3 | skip)
        (first | simp only [add_plain] at hx111_0 | skip)
        (first | simp only [add_plain] at hx111_1 | skip)
        (first | simp only [add_plain] at hx111_2 | skip)
        (first | simp only [add_plain] at hx111_3 | skip)
        obtain ⟨ce8, hcl8, hM8, hcc8, hfr8⟩ := Kd.R_elem HO_0.out z29 (x2_1 : Int) p8 q8
        obtain rfl := k29_openM hM8
        have hx8_0 : World.cell? _ ⟨go8, (x2_1 : Int).toNat * 4, none⟩ = some (.int .i64 ((rd_T29 x0_1 x2_1).f0)) := hcc8 0 _ rfl
        have hx8_1 : World.cell? _ ⟨go8, (x2_1 : Int).toNat * 4 + 1, none⟩ = some (.int .i64 ((rd_T29 x0_1 x2_1).f1)) := hcc8 1 _ rfl
        have hx8_2 : World.cell? _ ⟨go8, (x2_1 : Int).toNat * 4 + 2, none⟩ = some (.int .i64 ((rd_T29 x0_1 x2_1).f2)) := hcc8 2 _ rfl
        have hx8_3 : World.cell? _ ⟨go8, (x2_1 : Int).toNat * 4 + 3, none⟩ = some (.int .i64 ((rd_T29 x0_1 x2_1).f3)) := hcc8 3 _ rfl
        have hf8_0 : World.frozen? _ ⟨go8, (x2_1 : Int).toNat * 4, none⟩ = false := hfr8 0
        have hf8_1 : World.frozen? _ ⟨go8, (x2_1 : Int).toNat * 4 + 1, none⟩ = false := hfr8 1
        have hf8_2 : World.frozen? _ ⟨go8, (x2_1 : Int).toNat * 4 + 2, none⟩ = false := hfr8 2
        have hf8_3 : World.frozen? _ ⟨go8, (x2_1 : Int).toNat * 4 + 3, none⟩ = false := hfr8 3
        clear hcl8 hcc8 hfr8 hM8
        replace p8 := eq_true p8
        replace q8 := eq_true q8
        obtain ⟨ce11, hcl11, hM11, hcc11, hfr11⟩ := Kd.R_elem HO_0.out z29 (x2_1 : Int) (of_decide_eq_true (by first | (with_reducible assumption) | assumption)) (by have h_ : (x2_1 : Int) < ((x0_1.length : Int) : Int) := of_decide_eq_true (by first | (with_reducible assumption) | assumption); first | exact h_ | (have e_ := (Kd.R_reads' HO_0.out).1; omega) | simpa using h_)
        obtain rfl := k29_openM hM11
        have HP11 := (Kd.R_seg HO_0.out (x2_1 : Int) (of_decide_eq_true (by first | (with_reducible assumption) | assumption)) (by have h_ : (x2_1 : Int) < ((x0_1.length : Int) : Int) := of_decide_eq_true (by first | (with_reducible assumption) | assumption); first | exact h_ | (have e_ := (Kd.R_reads' HO_0.out).1; omega) | simpa using h_) (seg := [.int .i64 ((rd_T29 x0_1 x3_1).f0), .int .i64 ((rd_T29 x0_1 x3_1).f1), .int .i64 ((rd_T29 x0_1 x3_1).f2), .int .i64 ((rd_T29 x0_1 x3_1).f3)]) (j := 0) hcl11 hcc11 (show 4 ≤ 4 from by decide) (x' := (⟨(rd_T29 x0_1 x3_1).f0, (rd_T29 x0_1 x3_1).f1, (rd_T29 x0_1 x3_1).f2, (rd_T29 x0_1 x3_1).f3⟩ : S29)) (k29_mkM _ _ _ (⟨(rd_T29 x0_1 x3_1).f0, (rd_T29 x0_1 x3_1).f1, (rd_T29 x0_1 x3_1).f2, (rd_T29 x0_1 x3_1).f3⟩ : S29) ) (fun _ hk => hk)).1
        rw [← Ny112.out] at HP11
        have HQ11 := Aside0.mk HP11
        clear hcl11 hcc11 hfr11 hM11 HP11
        have p9 : 0 ≤ (x3_1 : Int) := of_decide_eq_true (by first | (with_reducible assumption) | assumption)
        have q9 : (x3_1 : Int) < ((x0_1.length : Int) : Int) := of_decide_eq_true (by first | (with_reducible assumption) | assumption)
        obtain ⟨ce9, hcl9, hM9, hcc9, hfr9⟩ := Kd.R_elem HQ11.out z29 (x3_1 : Int) p9 q9
        obtain rfl := k29_openM hM9
        have hx9_0 : World.cell? _ ⟨go8, (x3_1 : Int).toNat * 4, none⟩ = some (.int .i64 ((rd_T29 y112 x3_1).f0)) := hcc9 0 _ rfl
        have hx9_1 : World.cell? _ ⟨go8, (x3_1 : Int).toNat * 4 + 1, none⟩ = some (.int .i64 ((rd_T29 y112 x3_1).f1)) := hcc9 1 _ rfl
        have hx9_2 : World.cell? _ ⟨go8, (x3_1 : Int).toNat * 4 + 2, none⟩ = some (.int .i64 ((rd_T29 y112 x3_1).f2)) := hcc9 2 _ rfl
        have hx9_3 : World.cell? _ ⟨go8, (x3_1 : Int).toNat * 4 + 3, none⟩ = some (.int .i64 ((rd_T29 y112 x3_1).f3)) := hcc9 3 _ rfl
        have hf9_0 : World.frozen? _ ⟨go8, (x3_1 : Int).toNat * 4, none⟩ = false := hfr9 0
        have hf9_1 : World.frozen? _ ⟨go8, (x3_1 : Int).toNat * 4 + 1, none⟩ = false := hfr9 1
        have hf9_2 : World.frozen? _ ⟨go8, (x3_1 : Int).toNat * 4 + 2, none⟩ = false := hfr9 2
        have hf9_3 : World.frozen? _ ⟨go8, (x3_1 : Int).toNat * 4 + 3, none⟩ = false := hfr9 3
        clear hcl9 hcc9 hfr9 hM9
        replace p9 := eq_true p9
        replace q9 := eq_true q9
        obtain ⟨ce12, hcl12, hM12, hcc12, hfr12⟩ := Kd.R_elem HQ11.out z29 (x3_1 : Int) (of_decide_eq_true (by first | (with_reducible assumption) | assumption)) (by have h_ : (x3_1 : Int) < ((x0_1.length : Int) : Int) := of_decide_eq_true (by first | (with_reducible assumption) | assumption); first | exact h_ | (have e_ := (Kd.R_reads' HO_0.out).1; omega) | simpa using h_)
        obtain rfl := k29_openM hM12
        have HP12 := (Kd.R_seg HQ11.out (x3_1 : Int) (of_decide_eq_true (by first | (with_reducible assumption) | assumption)) (by have h_ : (x3_1 : Int) < ((x0_1.length : Int) : Int) := of_decide_eq_true (by first | (with_reducible assumption) | assumption); first | exact h_ | (have e_ := (Kd.R_reads' HO_0.out).1; omega) | simpa using h_) (seg := [.int .i64 ((rd_T29 x0_1 x2_1).f0), .int .i64 ((rd_T29 x0_1 x2_1).f1), .int .i64 ((rd_T29 x0_1 x2_1).f2), .int .i64 ((rd_T29 x0_1 x2_1).f3)]) (j := 0) hcl12 hcc12 (show 4 ≤ 4 from by decide) (x' := (⟨(rd_T29 x0_1 x2_1).f0, (rd_T29 x0_1 x2_1).f1, (rd_T29 x0_1 x2_1).f2, (rd_T29 x0_1 x2_1).f3⟩ : S29)) (k29_mkM _ _ _ (⟨(rd_T29 x0_1 x2_1).f0, (rd_T29 x0_1 x2_1).f1, (rd_T29 x0_1 x2_1).f2, (rd_T29 x0_1 x2_1).f3⟩ : S29) ) (fun _ hk => hk)).1
        rw [← Ny113.out] at HP12
        have HQ12 := Aside0.mk HP12
        clear hcl12 hcc12 hfr12 hM12 HP12
        refine start_ (n := 16) (S := fun w' => w'.cell? ⟨go8, ((x3_1).toNat * 4), none⟩ = some (.int .i64 ((rd_T29 x0_1 x3_1).f0)) ∧ w'.cell? ⟨go8, ((x3_1).toNat * 4) + 1, none⟩ = some (.int .i64 ((rd_T29 x0_1 x3_1).f1)) ∧ w'.cell? ⟨go8, ((x3_1).toNat * 4) + 2, none⟩ = some (.int .i64 ((rd_T29 x0_1 x3_1).f2)) ∧ w'.cell? ⟨go8, ((x3_1).toNat * 4) + 3, none⟩ = some (.int .i64 ((rd_T29 x0_1 x3_1).f3)) ∧ w'.cell? ⟨go8, ((x2_1).toNat * 4), none⟩ = some (.int .i64 ((rd_T29 x0_1 x2_1).f0)) ∧ w'.cell? ⟨go8, ((x2_1).toNat * 4) + 1, none⟩ = some (.int .i64 ((rd_T29 x0_1 x2_1).f1)) ∧ w'.cell? ⟨go8, ((x2_1).toNat * 4) + 2, none⟩ = some (.int .i64 ((rd_T29 x0_1 x2_1).f2)) ∧ w'.cell? ⟨go8, ((x2_1).toNat * 4) + 3, none⟩ = some (.int .i64 ((rd_T29 x0_1 x2_1).f3))) (ds := [13, 15]) #[false, false, false, false, false, false, false, false, false, false, false, false, false, false, false, false] (by kernel_rfl) rfl rfl ⟨hx110_0, hx110_1, hx110_2, hx110_3, hx111_0, hx111_1, hx111_2, hx111_3⟩ (fun hHeld => ?_); refine with_tabW graph_Edge_43.tab3 graph_Edge_43.bits3 (fun HT_ HW_ => ?_)
        generalize wr.drew = w10 at HO_0 HK HB GG8 HQ11 HQ12 hf8_0 hf8_1 hf8_2 hf8_3 hf9_0 hf9_1 hf9_2 hf9_3 hx110_0 hx110_1 hx110_2 hx110_3 hx111_0 hx111_1 hx111_2 hx111_3 hx8_0 hx8_1 hx8_2 hx8_3 hx9_0 hx9_1 hx9_2 hx9_3 hHeld ⊢
        refine pS 0 14 HT_ ?_
        refine pS 1 15 HT_ ?_
        refine pS 2 16 HT_ ?_
        refine pS 3 17 HT_ ?_
        refine pS 4 18 HT_ ?_
        refine pS 5 19 HT_ ?_
        refine pS 6 20 HT_ ?_
        refine pS 8 22 HT_ ?_
        refine pS 9 23 HT_ ?_
        refine pS 10 24 HT_ ?_
        refine tS 7 21 HT_ HW_ hHeld ?_
        refine tS 11 25 HT_ HW_ hHeld ?_
        refine pS 12 26 HT_ ?_
        refine last_ (i := 13) (N := none) #[true, true, true, true, true, true, true, true, true, true, true, true, true, true, false, false] rfl rfl (one_of HT_.out (by kernel_rfl)) (by decide) (fun K hK => ?_)
        refine skip_ (w1 := ?_) (by rfl) rfl ?_ ?_
        rotate_left
        ·go_simp
         rfl
        refine hK.out _ _ ?_
        clear hK K
        refine pS 14 27 HT_ ?_
        have hij_ : x2_1.toNat < x3_1.toNat := by have h1 : x2_1 < x3_1 := of_decide_eq_true (by assumption); have h2 : 0 ≤ x2_1 := (by first | assumption | exact of_eq_true (by assumption) | exact of_decide_eq_true (by assumption)); omega
        have hne_00 : (x2_1.toNat * 4 = x3_1.toNat * 4) = False := eq_false (by omega)
        have hnf_00 : (x3_1.toNat * 4 = x2_1.toNat * 4) = False := eq_false (by omega)
        have hne_01 : (x2_1.toNat * 4 = x3_1.toNat * 4 + 1) = False := eq_false (by omega)
        have hnf_01 : (x3_1.toNat * 4 + 1 = x2_1.toNat * 4) = False := eq_false (by omega)
        have hne_02 : (x2_1.toNat * 4 = x3_1.toNat * 4 + 2) = False := eq_false (by omega)
        have hnf_02 : (x3_1.toNat * 4 + 2 = x2_1.toNat * 4) = False := eq_false (by omega)
        have hne_03 : (x2_1.toNat * 4 = x3_1.toNat * 4 + 3) = False := eq_false (by omega)
        have hnf_03 : (x3_1.toNat * 4 + 3 = x2_1.toNat * 4) = False := eq_false (by omega)
        have hne_10 : (x2_1.toNat * 4 + 1 = x3_1.toNat * 4) = False := eq_false (by omega)
        have hnf_10 : (x3_1.toNat * 4 = x2_1.toNat * 4 + 1) = False := eq_false (by omega)
        have hne_11 : (x2_1.toNat * 4 + 1 = x3_1.toNat * 4 + 1) = False := eq_false (by omega)
        have hnf_11 : (x3_1.toNat * 4 + 1 = x2_1.toNat * 4 + 1) = False := eq_false (by omega)
        have hne_12 : (x2_1.toNat * 4 + 1 = x3_1.toNat * 4 + 2) = False := eq_false (by omega)
        have hnf_12 : (x3_1.toNat * 4 + 2 = x2_1.toNat * 4 + 1) = False := eq_false (by omega)
        have hne_13 : (x2_1.toNat * 4 + 1 = x3_1.toNat * 4 + 3) = False := eq_false (by omega)
        have hnf_13 : (x3_1.toNat * 4 + 3 = x2_1.toNat * 4 + 1) = False := eq_false (by omega)
        have hne_20 : (x2_1.toNat * 4 + 2 = x3_1.toNat * 4) = False := eq_false (by omega)
        have hnf_20 : (x3_1.toNat * 4 = x2_1.toNat * 4 + 2) = False := eq_false (by omega)
        have hne_21 : (x2_1.toNat * 4 + 2 = x3_1.toNat * 4 + 1) = False := eq_false (by omega)
        have hnf_21 : (x3_1.toNat * 4 + 1 = x2_1.toNat * 4 + 2) = False := eq_false (by omega)
        have hne_22 : (x2_1.toNat * 4 + 2 = x3_1.toNat * 4 + 2) = False := eq_false (by omega)
        have hnf_22 : (x3_1.toNat * 4 + 2 = x2_1.toNat * 4 + 2) = False := eq_false (by omega)
        have hne_23 : (x2_1.toNat * 4 + 2 = x3_1.toNat * 4 + 3) = False := eq_false (by omega)
        have hnf_23 : (x3_1.toNat * 4 + 3 = x2_1.toNat * 4 + 2) = False := eq_false (by omega)
        have hne_30 : (x2_1.toNat * 4 + 3 = x3_1.toNat * 4) = False := eq_false (by omega)
        have hnf_30 : (x3_1.toNat * 4 = x2_1.toNat * 4 + 3) = False := eq_false (by omega)
        have hne_31 : (x2_1.toNat * 4 + 3 = x3_1.toNat * 4 + 1) = False := eq_false (by omega)
        have hnf_31 : (x3_1.toNat * 4 + 1 = x2_1.toNat * 4 + 3) = False := eq_false (by omega)
        have hne_32 : (x2_1.toNat * 4 + 3 = x3_1.toNat * 4 + 2) = False := eq_false (by omega)
        have hnf_32 : (x3_1.toNat * 4 + 2 = x2_1.toNat * 4 + 3) = False := eq_false (by omega)
        have hne_33 : (x2_1.toNat * 4 + 3 = x3_1.toNat * 4 + 3) = False := eq_false (by omega)
        have hnf_33 : (x3_1.toNat * 4 + 3 = x2_1.toNat * 4 + 3) = False := eq_false (by omega)
        have hfz_0 := blk_frozen GG8.out (x3_1.toNat * 4)
        have hfz_1 := blk_frozen GG8.out (x3_1.toNat * 4 + 1)
        have hfz_2 := blk_frozen GG8.out (x3_1.toNat * 4 + 2)
        have hfz_3 := blk_frozen GG8.out (x3_1.toNat * 4 + 3)
        refine last_ (i := 15) (N := none) #[true, true, true, true, true, true, true, true, true, true, true, true, true, true, true, true] rfl rfl (one_of HT_.out (by kernel_rfl)) (by decide) (fun K hK => ?_)
        refine skip_ (w1 := ?_) (by rfl) rfl ?_ ?_
        rotate_left
        ·go_simp
         rfl
        refine hK.out _ _ ?_
        clear hK K
        refine done_ (done_of HT_.out (by kernel_rfl)) ?_
        try go_wp2
        (try simp only [← hl0_1])
        go_roundg k1
        case measure => have := HK1.out; omega
        case rel => exact ⟨(y113), (wrap64 (x2_1 + 1)), (wrap64 (x3_1 - 1)), (by first | rfl | (simp; done) | (simp [*]; done)), (by first | rfl | (simp; done) | (simp [*]; done)), H', ⟨by have := HK1.out; omega⟩, ⟨by (try simp only [hl0_1]); (with_reducible repeat (first | apply Kd.R_alloc | apply Kd.R_drewN | apply Kd.R_drew)); exact HQ12.out⟩, ⟨by repeat (first | (with_reducible first | exact HK.out | apply Kept.alloc | apply Kept.drewN | apply Kept.drew | refine Kept.setCell ?_ HMgo8.out _ | refine Kept.setCell ?_ HMgo8.out _ | refine Kept.setCell ?_ HMgo8.out _ | refine Kept.setCell ?_ HMgo8.out _ | refine Kept.setCell ?_ HMgo8.out _ | refine Kept.setCell ?_ HMgo8.out _ | refine Kept.setCell ?_ HMgo8.out _ | refine Kept.setCell ?_ HMgo8.out _) | exact HK.out)⟩, ⟨by repeat (first | (with_reducible first | exact HB.out | apply below_alloc | apply pw_below_drewN | apply below_drew1 | refine below_set ?_ GB8.out | refine below_set ?_ GB8.out | refine below_set ?_ GB8.out | refine below_set ?_ GB8.out | refine below_set ?_ GB8.out | refine below_set ?_ GB8.out | refine below_set ?_ GB8.out | refine below_set ?_ GB8.out) | exact HB.out)⟩⟩
       ·rw [if_neg c7] at H
        exact absurd H (by simp)
      ·rw [if_neg c6] at H
       exact absurd H (by simp)
     ·rw [if_neg c5] at H
      exact absurd H (by simp)
    ·rw [if_neg c4] at H
     exact absurd H (by simp)
   ·rw [if_neg c3] at H
    have c3b0 : decide (x2_1 < x3_1) = false := decide_eq_false c3
    clear c3
    obtain rfl := Option.some.inj H
    go_wp2
    first | go_end0 | ((try simp only [Exit.inBlock, Exit.then]); refine bodyPost_ret (results_none rfl _ _ _) rfl ?_)
    exact ⟨by first | rfl | (simp [errW_none, errW_some] <;> rfl) | (simp [*, errW_none, errW_some] <;> rfl), (by first | exact (pxr HO_0) | (simp only [hl0_1]; exact (pxr HO_0))), pxb HB, by repeat (first | (with_reducible first | exact HK.out | apply Kept.alloc | apply Kept.drewN | apply Kept.drew) | exact HK.out)⟩

end Go.Proofs.Ytefgfnhhoidbdaa.X
