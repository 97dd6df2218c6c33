/- The program's functions on doubles, walked: FloatOp, FloatCompare, FloatNeg, ToFloat. -/
import Derived.Test.YtmikdofplolmjaaGreatDoorM9
import Derived.Test.YtmikdofplolmjaaGreatDoorX25
namespace Go.Proofs.YtmikdofplolmjaaGreatDoor.NuW
open Go.RowKit Go.Proofs.YtmikdofplolmjaaGreatDoorW.PrintWords Go.Proofs.YtmikdofplolmjaaGreatDoorW.PrintLast Go.Proofs.YtmikdofplolmjaaGreatDoor.X Go.Proofs.YtmikdofplolmjaaGreatDoor.Fl
set_option linter.unusedVariables false
set_option linter.unusedSimpArgs false
attribute [local go_sem] run_from run_bits run_from2
/-- What two doubles come to. -/
def fop (o : BinOp) (a b : Nat) : Nat := (floatBits o .f64 a b).getD nanB
theorem fop_some {o : BinOp} {a b r : Nat} (h : floatBits o .f64 a b = some r) : fop o a b = r := by unfold fop; rw [h]; rfl
theorem fop_none {o : BinOp} {a b : Nat} (h : floatBits o .f64 a b = none) : fop o a b = nanB := by unfold fop; rw [h]; rfl
theorem run_fnan {P : Program} (o : BinOp) (t : TypeId) (x y : Nat) (ho : o = .add ∨ o = .sub ∨ o = .mul ∨ o = .quo) (h : floatBits o .f64 x y = none) (w : World) : ∃ r, isN r = true ∧ (binOp o t (.float .f64 x) (.float .f64 y)).run P w = .ok (.float .f64 r) w.drew := by
  have hN : ∀ u : Nat, isN ((u % 2) * 2 ^ 63 + 0x7ff0000000000000 + 1 + (u / 2) % (2 ^ 52 - 1)) = true := by
    intro u
    unfold isN rung
    rw [decide_eq_true_eq]
    have hx : u % 2 < 2 := Nat.mod_lt _ (by decide)
    have hy : u / 2 % (2 ^ 52 - 1) < 4503599627370495 := Nat.mod_lt _ (by decide)
    generalize u % 2 = x at hx
    generalize u / 2 % (2 ^ 52 - 1) = y at hy
    have h63 : (2 : Nat) ^ 63 = 9223372036854775808 := by decide
    rw [h63]
    rcases (by omega : x = 0 ∨ x = 1) with rfl | rfl <;> omega
  unfold floatBits at h
  rcases ho with rfl | rfl | rfl | rfl <;> simp only at h <;> exact ⟨_, hN _, by simp [binOp, Op.floatArith, h, Question.forced, Question.cut]; rfl⟩
end Go.Proofs.YtmikdofplolmjaaGreatDoor.NuW
