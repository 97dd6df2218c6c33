/- What the program's functions answer, as Lean functions, and that each call does just that; no condition. Written by a program (px.py) out of the translation. -/
import Derived.Test.YtbnopcndjdpnkaaDoorX0
import Derived.Test.YtbnopcndjdpnkaaDoorLexW
namespace Go.Proofs.YtbnopcndjdpnkaaDoor.X
open Go.RowKit Go.Proofs.YtbnopcndjdpnkaaDoorW.PrintWords Go.Proofs.YtbnopcndjdpnkaaDoorW.PrintLast Go.Proofs.YtbnopcndjdpnkaaDoorW.PrintMore
attribute [local go_sem] max2_int min2_int max_two min_two max_three min_three max_four min_four   -- for this text's walks alone
set_option linter.unusedVariables false
set_option linter.unusedSimpArgs false

/-! ### num_Int: function 11 -/
def num_Int.f (a0 : ByteArray) : Option (Int × Int) := LexW.fInt a0
theorem num_Int.calls (a0 : ByteArray) (r1 : Int) (r2 : Int) (w : World) (h : num_Int.f a0 = some (r1, r2)) (hgv : LexW.GV w) : Calls Tryd.prog 11 #[.string a0] w fun e w' => e = .returned (.tuple #[.int .i64 r1, .int .i64 r2]) ∧ Below w.heap.size w w' := LexW.cInt a0 r1 r2 w h hgv

end Go.Proofs.YtbnopcndjdpnkaaDoor.X
