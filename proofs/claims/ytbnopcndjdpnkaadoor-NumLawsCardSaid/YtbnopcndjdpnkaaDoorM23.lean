/- What the program's functions answer, as Lean functions, and that each call does just that; no condition. Written by a program (px.py) out of the translation. -/
import Derived.Test.YtbnopcndjdpnkaaDoorX0
import Derived.Test.YtbnopcndjdpnkaaDoorLexW
section
namespace Go.Proofs.YtbnopcndjdpnkaaDoor.X
open Go.RowKit Go.Proofs.YtbnopcndjdpnkaaDoorW.PrintWords Go.Proofs.YtbnopcndjdpnkaaDoorW.PrintLast Go.Proofs.YtbnopcndjdpnkaaDoorW.PrintMore
attribute [local go_sem] max2_int min2_int max_two min_two max_three min_three max_four min_four   -- for this text's walks alone
set_option linter.unusedVariables false
set_option linter.unusedSimpArgs false

/-! ### num_ToInt: function 15 -/
def num_ToInt.f (a0 : Int) : Option (Int) := LexW.fToInt a0
theorem num_ToInt.calls (a0 : Int) (r : Int) (w : World) (h : num_ToInt.f a0 = some r) : Calls Tryd.prog 15 #[.int .u64 a0] w fun e w' => e = .returned (.int .i64 r) ∧ Drawn0 w w' := LexW.cToInt a0 r w h

end Go.Proofs.YtbnopcndjdpnkaaDoor.X
end
section
namespace Go.Proofs.YtbnopcndjdpnkaaDoor.X
open Go.RowKit Go.Proofs.YtbnopcndjdpnkaaDoorW.PrintWords Go.Proofs.YtbnopcndjdpnkaaDoorW.PrintLast Go.Proofs.YtbnopcndjdpnkaaDoorW.PrintMore
attribute [local go_sem] max2_int min2_int max_two min_two max_three min_three max_four min_four   -- for this text's walks alone
set_option linter.unusedVariables false
set_option linter.unusedSimpArgs false

/-! ### num_ToFloat: function 16 -/
def num_ToFloat.f (a0 : Int) : Option (Int) := LexW.fToFloat a0
theorem num_ToFloat.calls (a0 : Int) (r : Int) (w : World) (h : num_ToFloat.f a0 = some r) : Calls Tryd.prog 16 #[.int .i64 a0] w fun e w' => e = .returned (.int .u64 r) ∧ Drawn0 w w' := LexW.cToFloat a0 r w h

end Go.Proofs.YtbnopcndjdpnkaaDoor.X
end
section
namespace Go.Proofs.YtbnopcndjdpnkaaDoor.X
open Go.RowKit Go.Proofs.YtbnopcndjdpnkaaDoorW.PrintWords Go.Proofs.YtbnopcndjdpnkaaDoorW.PrintLast Go.Proofs.YtbnopcndjdpnkaaDoorW.PrintMore
attribute [local go_sem] max2_int min2_int max_two min_two max_three min_three max_four min_four   -- for this text's walks alone
set_option linter.unusedVariables false
set_option linter.unusedSimpArgs false

/-! ### num_FloatOp: function 27 -/
def num_FloatOp.f (a0 : ByteArray) (a1 : Int) (a2 : Int) : Option (Int × Int) := LexW.fOp a0 a1 a2
theorem num_FloatOp.calls (a0 : ByteArray) (a1 : Int) (a2 : Int) (r1 : Int) (r2 : Int) (w : World) (h : num_FloatOp.f a0 a1 a2 = some (r1, r2)) : Calls Tryd.prog 27 #[.string a0, .int .u64 a1, .int .u64 a2] w fun e w' => e = .returned (.tuple #[.int .u64 r1, .int .i64 r2]) ∧ Below w.heap.size w w' := LexW.cOp a0 a1 a2 r1 r2 w h

end Go.Proofs.YtbnopcndjdpnkaaDoor.X
end
