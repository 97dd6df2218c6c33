/- What the program's functions answer, as Lean functions, and that each call does just that; no condition. Written by a program (px.py) out of the translation. -/
import Derived.Test.YtoljmjhmieaggaaM2
namespace Go.Proofs.Ytoljmjhmieaggaa.X
open Go.RowKit Go.Proofs.YtoljmjhmieaggaaW.PrintWords Go.Proofs.YtoljmjhmieaggaaW.PrintLast Go.Proofs.YtoljmjhmieaggaaW.PrintMore
attribute [local go_sem] max2_int min2_int max_two min_two max_three min_three max_four min_four   -- for this text's walks alone
set_option linter.unusedVariables false
set_option linter.unusedSimpArgs false

/-! ### diff_one: function 27 -/
def diff_one.f (a0 : Int) (a1 : ByteArray) (a2 : ByteArray) : Option ((List (S41))) := if a1.toList = a2.toList then (some ([] : List (S41))) else (some (([(⟨(⟨a0, wrap64 (a0 + (a1.size : Int))⟩ : S39), a2⟩ : S41)] : List (S41))))
set_option maxHeartbeats 8000000 in
set_option maxRecDepth 100000 in
theorem diff_one.calls (a0 : Int) (a1 : ByteArray) (a2 : ByteArray) (r : List (S41)) (w : World) (h : diff_one.f a0 a1 a2 = some r) :
  Calls Try.prog 27 #[.int .i64 a0, .string a1, .string a2] w fun e w' => ∃ v0_ : Value, e = .returned (v0_) ∧ Kd.R k41 41 w' w.heap.size (fun _ => True) v0_ r ∧ Below w.heap.size w w' := by
 have hu39 := Try.underlying39
 have hu41 := Try.underlying41
 have HB := Aside0.mk (Below.refl w.heap.size w)
 have H : (if a1.toList = a2.toList then (some ([] : List (S41))) else (some (([(⟨(⟨a0, wrap64 (a0 + (a1.size : Int))⟩ : S39), a2⟩ : S41)] : List (S41))))) = some r := h
 clear h
 by_cases c4 : a1.toList = a2.toList
 ·rw [if_pos c4] at H
  have c4b0 : (a1.toList == a2.toList) = true := beq_iff_eq.mpr c4
  have c4b1 : (a1.toList != a2.toList) = false := bne_eq_false_iff_eq.mpr c4
  clear c4
  obtain rfl := Option.some.inj H
  go_enter Try.func27, Try.ntmps27
  go_wp2
  go_ret
  exact ⟨_, by first | rfl | (simp [errW_none, errW_some] <;> rfl) | (simp [*, errW_none, errW_some] <;> rfl), by first | exact Kd.R_nil _ _ _ _ _ | exact Kd.N_nil _ _ _ _ _ | exact Kd.V_nil _ _ _ _ _ | exact Kd.Q_nil _ _ _ _ _ | exact Kd.S_nil _ _ _ _ _, pxb HB⟩
 ·rw [if_neg c4] at H
  have c4b0 : (a1.toList == a2.toList) = false := beq_eq_false_iff_ne.mpr c4
  have c4b1 : (a1.toList != a2.toList) = true := bne_iff_ne.mpr c4
  obtain ⟨y161, hy161⟩ : ∃ y_ : List (S41), y_ = (([(⟨(⟨a0, wrap64 (a0 + (a1.size : Int))⟩ : S39), a2⟩ : S41)] : List (S41))) := ⟨_, rfl⟩
  replace H : (some y161) = some r := by first | (rw [hy161]; with_reducible exact H) | (have H2_ := (Option.bind_some _ _).symm.trans H; rw [hy161]; with_reducible exact H2_) | (have H2_ := (Option.bind_some _ _).symm.trans H; with_reducible exact H2_) | with_reducible exact H | (rw [hy161]; exact H) | exact H
  have Ny161 := Aside0.mk hy161
  clear hy161
  obtain rfl := Option.some.inj H
  go_enter Try.func27, Try.ntmps27
  go_wp2_with (first | ((with_reducible refine gate_dst (N := 18) rfl ?_); refine Kd.R_lit k41 _ 41 ?hg (N := 18) ?hd (xs := ([(⟨(⟨a0, wrap64 (a0 + (a1.size : Int))⟩ : S39), a2⟩ : S41)] : List (S41))) (inner := [.int .i64 a0, .int .i64 (wrap64 (a0 + (a1.size : Int))), .string a2]) (ok := fun _ => True) (okp := fun _ => True) ?hr ?hp (fun _ hk => hk) trivial (Below.refl _ _) (Nat.le_refl _) (by simp) ?_; (case hd => rfl); (case hg => rfl); (case hr => first | (go_simp; done) | (go_simp; rfl)); (case hp => exact (Reps.c3 (show Kd.M k41 _ _ _ (⟨(⟨a0, wrap64 (a0 + (a1.size : Int))⟩ : S39), a2⟩ : S41) [.int .i64 a0, .int .i64 (wrap64 (a0 + (a1.size : Int))), .string a2] from (k41_mkM _ _ _ (⟨(⟨a0, wrap64 (a0 + (a1.size : Int))⟩ : S39), a2⟩ : S41) )) (Reps.none _ _))); intro v162 w5 ho6 hb hg_ hnew_; clear hg_ hnew_; (first | rw [← Ny161.out] at ho6 | (simp only [Int.reduceToNat] at ho6; rw [← Ny161.out] at ho6)); have n0_ := Aside0.mk (Kd.R_lower ho6 (below_size (pxb HB))); have n1_ := pxs HB hb; clear HB; have HO163 := n0_; have HB := n1_; clear n0_ n1_; clear hb ho6))
  go_ret
  exact ⟨_, by first | rfl | (simp [errW_none, errW_some] <;> rfl) | (simp [*, errW_none, errW_some] <;> rfl), pxr HO163, pxb HB⟩

end Go.Proofs.Ytoljmjhmieaggaa.X
