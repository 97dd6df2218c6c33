/- The program's functions on doubles, walked: FloatOp, FloatCompare, FloatNeg, ToFloat. -/
import Derived.Test.YtbnopcndjdpnkaaDoorNumW0
import Derived.Test.YtbnopcndjdpnkaaDoorX39
namespace Go.Proofs.YtbnopcndjdpnkaaDoor.NuW
open Go.RowKit Go.Proofs.YtbnopcndjdpnkaaDoorW.PrintWords Go.Proofs.YtbnopcndjdpnkaaDoorW.PrintLast Go.Proofs.YtbnopcndjdpnkaaDoor.X Go.Proofs.YtbnopcndjdpnkaaDoor.Fl
set_option linter.unusedVariables false
set_option linter.unusedSimpArgs false
attribute [local go_sem] run_from run_bits run_from2
/-- What two doubles come to. -/
def fop (o : BinOp) (a b : Nat) : Nat := (floatBits o .f64 a b).getD nanB
theorem fop_some {o : BinOp} {a b r : Nat} (h : floatBits o .f64 a b = some r) : fop o a b = r := by unfold fop; rw [h]; rfl
theorem fop_none {o : BinOp} {a b : Nat} (h : floatBits o .f64 a b = none) : fop o a b = nanB := by unfold fop; rw [h]; rfl
theorem run_fnan {P : Program} (o : BinOp) (t : TypeId) (x y : Nat) (ho : o = .add ∨ o = .sub ∨ o = .mul ∨ o = .quo) (h : floatBits o .f64 x y = none) (w : World) : ∃ r, isN r = true ∧ (binOp o t (.float .f64 x) (.float .f64 y)).run P w = .ok (.float .f64 r) w.drew := by
  have hN : ∀ u : Nat, isN ((u % 2) * 2 ^ 63 + 0x7ff0000000000000 + 1 + (u / 2) % (2 ^ 52 - 1)) = true := by
    intro u
    unfold isN rung
    rw [decide_eq_true_eq]
    have hx : u % 2 < 2 := Nat.mod_lt _ (by decide)
    have hy : u / 2 % (2 ^ 52 - 1) < 4503599627370495 := Nat.mod_lt _ (by decide)
    generalize u % 2 = x at hx
    generalize u / 2 % (2 ^ 52 - 1) = y at hy
    have h63 : (2 : Nat) ^ 63 = 9223372036854775808 := by decide
    rw [h63]
    rcases (by omega : x = 0 ∨ x = 1) with rfl | rfl <;> omega
  unfold floatBits at h
  rcases ho with rfl | rfl | rfl | rfl <;> simp only at h <;> exact ⟨_, hN _, by simp [binOp, Op.floatArith, h, Question.forced, Question.cut]; rfl⟩
set_option maxRecDepth 100000 in
set_option maxHeartbeats 4000000 in
theorem fop_add_ok (a b : Nat) (r : Nat) (w : World) (h : floatBits .add .f64 a b = some r) : Calls Tryd.prog 27 #[.string ⟨#[43]⟩, .int .u64 (a : Int), .int .u64 (b : Int)] w fun e w' => e = .returned (.tuple #[.int .u64 (r : Int), .int .i64 0]) ∧ Below w.heap.size w w' := by
  have hrun := run_float_arith (P := Tryd.prog) w .add 53 .f64 a b r h
  have hnr := floatBits_ok h
  have HN := Lib.hid hnr
  clear h hnr
  have HB := Aside0.mk (Below.refl w.heap.size w)
  go_enter Tryd.func27, Tryd.ntmps27
  go_wp2_with (first | (go_at_call 19; (with_reducible refine (norm_any _ _).mono ?_); rintro e w1 ⟨rfl, rfl⟩; rw [norm_ok HN.out]))
  go_ret2
  exact ⟨rfl, pxb HB⟩
set_option maxRecDepth 100000 in
set_option maxHeartbeats 4000000 in
theorem fop_add_nan (a b : Nat) (w : World) (h : floatBits .add .f64 a b = none) : Calls Tryd.prog 27 #[.string ⟨#[43]⟩, .int .u64 (a : Int), .int .u64 (b : Int)] w fun e w' => e = .returned (.tuple #[.int .u64 ((nanB : Nat) : Int), .int .i64 0]) ∧ Below w.heap.size w w' := by
  obtain ⟨r, hnr, hrun⟩ := run_fnan (P := Tryd.prog) .add 53 a b (by simp) h w
  have HN := Lib.hid hnr
  clear h hnr
  have HB := Aside0.mk (Below.refl w.heap.size w)
  go_enter Tryd.func27, Tryd.ntmps27
  go_wp2_with (first | (go_at_call 19; (with_reducible refine (norm_any _ _).mono ?_); rintro e w1 ⟨rfl, rfl⟩; rw [norm_nan' HN.out]))
  go_ret2
  exact ⟨rfl, pxb HB⟩
theorem fop_add_any (a b : Nat) (w : World) : Calls Tryd.prog 27 #[.string ⟨#[43]⟩, .int .u64 (a : Int), .int .u64 (b : Int)] w fun e w' => e = .returned (.tuple #[.int .u64 (fop .add a b : Int), .int .i64 0]) ∧ Below w.heap.size w w' := by
  cases h : floatBits .add .f64 a b with
  | none => rw [fop_none h]; exact fop_add_nan a b w h
  | some r => rw [fop_some h]; exact fop_add_ok a b r w h
set_option maxRecDepth 100000 in
set_option maxHeartbeats 4000000 in
theorem fop_sub_ok (a b : Nat) (r : Nat) (w : World) (h : floatBits .sub .f64 a b = some r) : Calls Tryd.prog 27 #[.string ⟨#[45]⟩, .int .u64 (a : Int), .int .u64 (b : Int)] w fun e w' => e = .returned (.tuple #[.int .u64 (r : Int), .int .i64 0]) ∧ Below w.heap.size w w' := by
  have hrun := run_float_arith (P := Tryd.prog) w .sub 53 .f64 a b r h
  have hnr := floatBits_ok h
  have HN := Lib.hid hnr
  clear h hnr
  have HB := Aside0.mk (Below.refl w.heap.size w)
  go_enter Tryd.func27, Tryd.ntmps27
  go_wp2_with (first | (go_at_call 19; (with_reducible refine (norm_any _ _).mono ?_); rintro e w1 ⟨rfl, rfl⟩; rw [norm_ok HN.out]))
  go_ret2
  exact ⟨rfl, pxb HB⟩
set_option maxRecDepth 100000 in
set_option maxHeartbeats 4000000 in
theorem fop_sub_nan (a b : Nat) (w : World) (h : floatBits .sub .f64 a b = none) : Calls Tryd.prog 27 #[.string ⟨#[45]⟩, .int .u64 (a : Int), .int .u64 (b : Int)] w fun e w' => e = .returned (.tuple #[.int .u64 ((nanB : Nat) : Int), .int .i64 0]) ∧ Below w.heap.size w w' := by
  obtain ⟨r, hnr, hrun⟩ := run_fnan (P := Tryd.prog) .sub 53 a b (by simp) h w
  have HN := Lib.hid hnr
  clear h hnr
  have HB := Aside0.mk (Below.refl w.heap.size w)
  go_enter Tryd.func27, Tryd.ntmps27
  go_wp2_with (first | (go_at_call 19; (with_reducible refine (norm_any _ _).mono ?_); rintro e w1 ⟨rfl, rfl⟩; rw [norm_nan' HN.out]))
  go_ret2
  exact ⟨rfl, pxb HB⟩
theorem fop_sub_any (a b : Nat) (w : World) : Calls Tryd.prog 27 #[.string ⟨#[45]⟩, .int .u64 (a : Int), .int .u64 (b : Int)] w fun e w' => e = .returned (.tuple #[.int .u64 (fop .sub a b : Int), .int .i64 0]) ∧ Below w.heap.size w w' := by
  cases h : floatBits .sub .f64 a b with
  | none => rw [fop_none h]; exact fop_sub_nan a b w h
  | some r => rw [fop_some h]; exact fop_sub_ok a b r w h
set_option maxRecDepth 100000 in
set_option maxHeartbeats 4000000 in
theorem fop_mul_ok (a b : Nat) (r : Nat) (w : World) (h : floatBits .mul .f64 a b = some r) : Calls Tryd.prog 27 #[.string ⟨#[42]⟩, .int .u64 (a : Int), .int .u64 (b : Int)] w fun e w' => e = .returned (.tuple #[.int .u64 (r : Int), .int .i64 0]) ∧ Below w.heap.size w w' := by
  have hrun := run_float_arith (P := Tryd.prog) w .mul 53 .f64 a b r h
  have hnr := floatBits_ok h
  have HN := Lib.hid hnr
  clear h hnr
  have HB := Aside0.mk (Below.refl w.heap.size w)
  go_enter Tryd.func27, Tryd.ntmps27
  go_wp2_with (first | (go_at_call 19; (with_reducible refine (norm_any _ _).mono ?_); rintro e w1 ⟨rfl, rfl⟩; rw [norm_ok HN.out]))
  go_ret2
  exact ⟨rfl, pxb HB⟩
set_option maxRecDepth 100000 in
set_option maxHeartbeats 4000000 in
theorem fop_mul_nan (a b : Nat) (w : World) (h : floatBits .mul .f64 a b = none) : Calls Tryd.prog 27 #[.string ⟨#[42]⟩, .int .u64 (a : Int), .int .u64 (b : Int)] w fun e w' => e = .returned (.tuple #[.int .u64 ((nanB : Nat) : Int), .int .i64 0]) ∧ Below w.heap.size w w' := by
  obtain ⟨r, hnr, hrun⟩ := run_fnan (P := Tryd.prog) .mul 53 a b (by simp) h w
  have HN := Lib.hid hnr
  clear h hnr
  have HB := Aside0.mk (Below.refl w.heap.size w)
  go_enter Tryd.func27, Tryd.ntmps27
  go_wp2_with (first | (go_at_call 19; (with_reducible refine (norm_any _ _).mono ?_); rintro e w1 ⟨rfl, rfl⟩; rw [norm_nan' HN.out]))
  go_ret2
  exact ⟨rfl, pxb HB⟩
theorem fop_mul_any (a b : Nat) (w : World) : Calls Tryd.prog 27 #[.string ⟨#[42]⟩, .int .u64 (a : Int), .int .u64 (b : Int)] w fun e w' => e = .returned (.tuple #[.int .u64 (fop .mul a b : Int), .int .i64 0]) ∧ Below w.heap.size w w' := by
  cases h : floatBits .mul .f64 a b with
  | none => rw [fop_none h]; exact fop_mul_nan a b w h
  | some r => rw [fop_some h]; exact fop_mul_ok a b r w h
set_option maxRecDepth 100000 in
set_option maxHeartbeats 4000000 in
theorem fop_quo_ok (a b : Nat) (r : Nat) (w : World) (h : floatBits .quo .f64 a b = some r) : Calls Tryd.prog 27 #[.string ⟨#[47]⟩, .int .u64 (a : Int), .int .u64 (b : Int)] w fun e w' => e = .returned (.tuple #[.int .u64 (r : Int), .int .i64 0]) ∧ Below w.heap.size w w' := by
  have hrun := run_float_arith (P := Tryd.prog) w .quo 53 .f64 a b r h
  have hnr := floatBits_ok h
  have HN := Lib.hid hnr
  clear h hnr
  have HB := Aside0.mk (Below.refl w.heap.size w)
  go_enter Tryd.func27, Tryd.ntmps27
  go_wp2_with (first | (go_at_call 19; (with_reducible refine (norm_any _ _).mono ?_); rintro e w1 ⟨rfl, rfl⟩; rw [norm_ok HN.out]))
  go_ret2
  exact ⟨rfl, pxb HB⟩
set_option maxRecDepth 100000 in
set_option maxHeartbeats 4000000 in
theorem fop_quo_nan (a b : Nat) (w : World) (h : floatBits .quo .f64 a b = none) : Calls Tryd.prog 27 #[.string ⟨#[47]⟩, .int .u64 (a : Int), .int .u64 (b : Int)] w fun e w' => e = .returned (.tuple #[.int .u64 ((nanB : Nat) : Int), .int .i64 0]) ∧ Below w.heap.size w w' := by
  obtain ⟨r, hnr, hrun⟩ := run_fnan (P := Tryd.prog) .quo 53 a b (by simp) h w
  have HN := Lib.hid hnr
  clear h hnr
  have HB := Aside0.mk (Below.refl w.heap.size w)
  go_enter Tryd.func27, Tryd.ntmps27
  go_wp2_with (first | (go_at_call 19; (with_reducible refine (norm_any _ _).mono ?_); rintro e w1 ⟨rfl, rfl⟩; rw [norm_nan' HN.out]))
  go_ret2
  exact ⟨rfl, pxb HB⟩
theorem fop_quo_any (a b : Nat) (w : World) : Calls Tryd.prog 27 #[.string ⟨#[47]⟩, .int .u64 (a : Int), .int .u64 (b : Int)] w fun e w' => e = .returned (.tuple #[.int .u64 (fop .quo a b : Int), .int .i64 0]) ∧ Below w.heap.size w w' := by
  cases h : floatBits .quo .f64 a b with
  | none => rw [fop_none h]; exact fop_quo_nan a b w h
  | some r => rw [fop_some h]; exact fop_quo_ok a b r w h
end Go.Proofs.YtbnopcndjdpnkaaDoor.NuW
