/- What the program's functions answer, as Lean functions, and that each call does just that; no condition. Written by a program (px.py) out of the translation. -/
import Derived.Test.YtmikdofplolmjaaGreatDoorX0
import Derived.Test.YtmikdofplolmjaaGreatDoorM38
section
namespace Go.Proofs.YtmikdofplolmjaaGreatDoor.X
open Go.RowKit Go.Proofs.YtmikdofplolmjaaGreatDoorW.PrintWords Go.Proofs.YtmikdofplolmjaaGreatDoorW.PrintLast Go.Proofs.YtmikdofplolmjaaGreatDoorW.PrintMore
attribute [local go_sem] max2_int min2_int max_two min_two max_three min_three max_four min_four   -- for this text's walks alone
set_option linter.unusedVariables false
set_option linter.unusedSimpArgs false

/-! ### num_Float: function 7 -/
def num_Float.f (a0 : ByteArray) : Option (Int × Int) := LexW.fFloat a0
theorem num_Float.calls (a0 : ByteArray) (r1 : Int) (r2 : Int) (w : World) (h : num_Float.f a0 = some (r1, r2)) (hgv : LexW.GV w) : Calls Tryz.prog 7 #[.string a0] w fun e w' => e = .returned (.tuple #[.int .u64 r1, .int .i64 r2]) ∧ Below w.heap.size w w' := LexW.cFloat a0 r1 r2 w h hgv.2

end Go.Proofs.YtmikdofplolmjaaGreatDoor.X
end
section
namespace Go.Proofs.YtmikdofplolmjaaGreatDoor.X
open Go.RowKit Go.Proofs.YtmikdofplolmjaaGreatDoorW.PrintWords Go.Proofs.YtmikdofplolmjaaGreatDoorW.PrintLast Go.Proofs.YtmikdofplolmjaaGreatDoorW.PrintMore
attribute [local go_sem] max2_int min2_int max_two min_two max_three min_three max_four min_four   -- for this text's walks alone
set_option linter.unusedVariables false
set_option linter.unusedSimpArgs false

/-! ### num_FloatCompare: function 8 -/
def num_FloatCompare.f (a0 : ByteArray) (a1 : Int) (a2 : Int) : Option (Bool × Int) := LexW.fCmp a0 a1 a2
theorem num_FloatCompare.calls (a0 : ByteArray) (a1 : Int) (a2 : Int) (r1 : Bool) (r2 : Int) (w : World) (h : num_FloatCompare.f a0 a1 a2 = some (r1, r2)) : Calls Tryz.prog 8 #[.string a0, .int .u64 a1, .int .u64 a2] w fun e w' => e = .returned (.tuple #[.bool r1, .int .i64 r2]) ∧ Drawn0 w w' := LexW.cCmp a0 a1 a2 r1 r2 w h

end Go.Proofs.YtmikdofplolmjaaGreatDoor.X
end
section
namespace Go.Proofs.YtmikdofplolmjaaGreatDoor.X
open Go.RowKit Go.Proofs.YtmikdofplolmjaaGreatDoorW.PrintWords Go.Proofs.YtmikdofplolmjaaGreatDoorW.PrintLast Go.Proofs.YtmikdofplolmjaaGreatDoorW.PrintMore
attribute [local go_sem] max2_int min2_int max_two min_two max_three min_three max_four min_four   -- for this text's walks alone
set_option linter.unusedVariables false
set_option linter.unusedSimpArgs false

/-! ### num_ToFloat: function 9 -/
def num_ToFloat.f (a0 : Int) : Option (Int) := LexW.fToFloat a0
theorem num_ToFloat.calls (a0 : Int) (r : Int) (w : World) (h : num_ToFloat.f a0 = some r) : Calls Tryz.prog 9 #[.int .i64 a0] w fun e w' => e = .returned (.int .u64 r) ∧ Drawn0 w w' := LexW.cToFloat a0 r w h

end Go.Proofs.YtmikdofplolmjaaGreatDoor.X
end
section
namespace Go.Proofs.YtmikdofplolmjaaGreatDoor.X
open Go.RowKit Go.Proofs.YtmikdofplolmjaaGreatDoorW.PrintWords Go.Proofs.YtmikdofplolmjaaGreatDoorW.PrintLast Go.Proofs.YtmikdofplolmjaaGreatDoorW.PrintMore
attribute [local go_sem] max2_int min2_int max_two min_two max_three min_three max_four min_four   -- for this text's walks alone
set_option linter.unusedVariables false
set_option linter.unusedSimpArgs false

/-! ### num_ToInt: function 10 -/
def num_ToInt.f (a0 : Int) : Option (Int) := LexW.fToInt a0
theorem num_ToInt.calls (a0 : Int) (r : Int) (w : World) (h : num_ToInt.f a0 = some r) : Calls Tryz.prog 10 #[.int .u64 a0] w fun e w' => e = .returned (.int .i64 r) ∧ Drawn0 w w' := LexW.cToInt a0 r w h

end Go.Proofs.YtmikdofplolmjaaGreatDoor.X
end
section
namespace Go.Proofs.YtmikdofplolmjaaGreatDoor.X
open Go.RowKit Go.Proofs.YtmikdofplolmjaaGreatDoorW.PrintWords Go.Proofs.YtmikdofplolmjaaGreatDoorW.PrintLast Go.Proofs.YtmikdofplolmjaaGreatDoorW.PrintMore
attribute [local go_sem] max2_int min2_int max_two min_two max_three min_three max_four min_four   -- for this text's walks alone
set_option linter.unusedVariables false
set_option linter.unusedSimpArgs false

/-! ### num_FloatNeg: function 11 -/
def num_FloatNeg.f (a0 : Int) : Option (Int) := LexW.fNeg a0
theorem num_FloatNeg.calls (a0 : Int) (r : Int) (w : World) (h : num_FloatNeg.f a0 = some r) : Calls Tryz.prog 11 #[.int .u64 a0] w fun e w' => e = .returned (.int .u64 r) ∧ Drawn0 w w' := LexW.cNeg a0 r w h

end Go.Proofs.YtmikdofplolmjaaGreatDoor.X
end
