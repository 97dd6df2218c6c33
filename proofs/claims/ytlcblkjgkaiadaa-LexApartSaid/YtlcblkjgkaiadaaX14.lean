/- What the program's functions answer, as Lean functions, and that each call does just that; no condition. Written by a program (px.py) out of the translation. -/
import Derived.Test.YtlcblkjgkaiadaaX0
import Derived.Test.YtlcblkjgkaiadaaLexW
namespace Go.Proofs.Ytlcblkjgkaiadaa.X
open Go.RowKit Go.Proofs.YtlcblkjgkaiadaaW.PrintWords Go.Proofs.YtlcblkjgkaiadaaW.PrintLast Go.Proofs.YtlcblkjgkaiadaaW.PrintMore
attribute [local go_sem] max2_int min2_int max_two min_two max_three min_three max_four min_four   -- for this text's walks alone
set_option linter.unusedVariables false
set_option linter.unusedSimpArgs false

/-! ### lex_Kept: function 14 -/
def lex_Kept.f (a0 : ByteArray) : Option (Bool) := if a0.size ≤ 4000000000 then some (Lx.keptB a0.data.toList) else none
theorem lex_Kept.calls (a0 : ByteArray) (r1 : Bool) (w : World) (h : lex_Kept.f a0 = some r1) (hgv : LexW.GV w) : Calls Try.prog 14 #[.string a0] w fun e w' => e = .returned (.bool r1) ∧ Drawn0 w w' := by
  unfold lex_Kept.f at h
  by_cases hc : a0.size ≤ 4000000000
  · rw [if_pos hc] at h
    obtain rfl := Option.some.inj h
    exact (LexW.kept_any a0 w hc hgv).mono fun e w' he => ⟨he.1, he.2 ▸ Drawn0.refl _⟩
  · rw [if_neg hc] at h
    cases h

end Go.Proofs.Ytlcblkjgkaiadaa.X
