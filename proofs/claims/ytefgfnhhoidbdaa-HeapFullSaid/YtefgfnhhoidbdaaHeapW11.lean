/- The law HeapFull answers true, whatever it is asked. -/
import Derived.Test.YtefgfnhhoidbdaaHeapW10
namespace Go.Proofs.Ytefgfnhhoidbdaa.HpW
open Go.RowKit Go.Proofs.YtefgfnhhoidbdaaW.PrintWords Go.Proofs.YtefgfnhhoidbdaaW.PrintLast Go.Proofs.Ytefgfnhhoidbdaa.H
theorem full_any (a b c : Int) (w : World) : Calls Try.prog 8 #[.int .i64 a, .int .i64 b, .int .i64 c] w fun e w' => e = .returned (.bool true) ∧ Below w.heap.size w w' := by
  by_cases h : a < 0 ∨ 4200 < a ∨ b < 0 ∨ 70000 < b ∨ c < 0 ∨ 2000 < c
  · exact full_out a b c w h
  · obtain ⟨N, rfl⟩ : ∃ N : Nat, a = (N : Int) := ⟨a.toNat, by omega⟩
    obtain ⟨M, rfl⟩ : ∃ M : Nat, b = (M : Int) := ⟨b.toNat, by omega⟩
    obtain ⟨T, rfl⟩ : ∃ T : Nat, c = (T : Int) := ⟨c.toNat, by omega⟩
    exact full_in N M T w (by omega) (by omega) (by omega)
end Go.Proofs.Ytefgfnhhoidbdaa.HpW
