/- What the program's functions answer, as Lean functions, and that each call does just that; no condition. Written by a program (px.py) out of the translation. -/
import Derived.Test.YtbnopcndjdpnkaaDoorX0
namespace Go.Proofs.YtbnopcndjdpnkaaDoor.X
open Go.RowKit Go.Proofs.YtbnopcndjdpnkaaDoorW.PrintWords Go.Proofs.YtbnopcndjdpnkaaDoorW.PrintLast Go.Proofs.YtbnopcndjdpnkaaDoorW.PrintMore
attribute [local go_sem] max2_int min2_int max_two min_two max_three min_three max_four min_four   -- for this text's walks alone
set_option linter.unusedVariables false
set_option linter.unusedSimpArgs false

/-! ### caulkerref05_Zero: function 31 -/
def caulkerref05_Zero.f (a0 : Int) : Option (Bool) := some ((IntKind.u64.wrap (a0 * 2)) == 0)
set_option maxHeartbeats 8000000 in
set_option maxRecDepth 100000 in
theorem caulkerref05_Zero.calls (a0 : Int) (r : Bool) (w : World) (h : caulkerref05_Zero.f a0 = some r) :
  Calls Tryd.prog 31 #[.int .u64 a0] w fun e w' => e = .returned (.bool r) ∧ Drawn0 w w' := by
 have H : (some ((IntKind.u64.wrap (a0 * 2)) == 0)) = some r := h
 clear h
 obtain rfl := Option.some.inj H
 go_enter Tryd.func31, Tryd.ntmps31
 go_wp2
 go_ret
 exact ⟨by first | rfl | (simp; done) | (simp [*]; done), by repeat (first | exact Drawn0.refl _ | apply Drawn0.step)⟩

end Go.Proofs.YtbnopcndjdpnkaaDoor.X
