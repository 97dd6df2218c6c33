/- What the program's functions answer, as Lean functions, and that each call does just that; no condition. Written by a program (px.py) out of the translation. -/
import Derived.Test.YtmikdofplolmjaaGreatDoorX0
import Derived.Test.YtmikdofplolmjaaGreatDoorM38
section
namespace Go.Proofs.YtmikdofplolmjaaGreatDoor.X
open Go.RowKit Go.Proofs.YtmikdofplolmjaaGreatDoorW.PrintWords Go.Proofs.YtmikdofplolmjaaGreatDoorW.PrintLast Go.Proofs.YtmikdofplolmjaaGreatDoorW.PrintMore
attribute [local go_sem] max2_int min2_int max_two min_two max_three min_three max_four min_four   -- for this text's walks alone
set_option linter.unusedVariables false
set_option linter.unusedSimpArgs false

/-! ### lex_Quote: function 13 -/
def lex_Quote.f (a0 : ByteArray) : Option (ByteArray × Int) := if a0.size ≤ 1000000000 then some (LexW.qv [34] a0.data.toList) else none
theorem lex_Quote.calls (a0 : ByteArray) (r1 : ByteArray) (r2 : Int) (w : World) (h : lex_Quote.f a0 = some (r1, r2)) : Calls Tryz.prog 13 #[.string a0] w fun e w' => e = .returned (.tuple #[.string r1, .int .i64 r2]) ∧ Below w.heap.size w w' := by
  unfold lex_Quote.f at h
  by_cases hc : a0.size ≤ 1000000000
  · rw [if_pos hc] at h
    have h2 := Option.some.inj h
    refine (LexW.quote_any a0 w hc).mono ?_
    rintro e w' ⟨he, hb⟩
    rw [h2] at he
    exact ⟨he, hb⟩
  · rw [if_neg hc] at h
    cases h

end Go.Proofs.YtmikdofplolmjaaGreatDoor.X
end
section
namespace Go.Proofs.YtmikdofplolmjaaGreatDoor.X
open Go.RowKit Go.Proofs.YtmikdofplolmjaaGreatDoorW.PrintWords Go.Proofs.YtmikdofplolmjaaGreatDoorW.PrintLast Go.Proofs.YtmikdofplolmjaaGreatDoorW.PrintMore
attribute [local go_sem] max2_int min2_int max_two min_two max_three min_three max_four min_four   -- for this text's walks alone
set_option linter.unusedVariables false
set_option linter.unusedSimpArgs false

/-! ### lex_Unquote: function 12 -/
def lex_Unquote.f (a0 : ByteArray) : Option (ByteArray × Int) := if a0.size ≤ 1000000000 then some (Lx.unqV a0) else none
theorem lex_Unquote.calls (a0 : ByteArray) (r1 : ByteArray) (r2 : Int) (w : World) (h : lex_Unquote.f a0 = some (r1, r2)) : Calls Tryz.prog 12 #[.string a0] w fun e w' => e = .returned (.tuple #[.string r1, .int .i64 r2]) ∧ Below w.heap.size w w' := by
  unfold lex_Unquote.f at h
  by_cases hc : a0.size ≤ 1000000000
  · rw [if_pos hc] at h
    have h2 := Option.some.inj h
    refine (LexW.unquote_any a0 w hc).mono ?_
    rintro e w' ⟨he, hb⟩
    rw [h2] at he
    exact ⟨he, hb⟩
  · rw [if_neg hc] at h
    cases h

end Go.Proofs.YtmikdofplolmjaaGreatDoor.X
end
