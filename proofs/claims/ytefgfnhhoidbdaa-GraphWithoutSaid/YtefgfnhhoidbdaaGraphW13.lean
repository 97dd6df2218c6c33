/- GraphLeast: walked. -/
import Derived.Test.YtefgfnhhoidbdaaGraphW12
import Derived.Test.YtefgfnhhoidbdaaGraphLeastP
namespace Go.Proofs.Ytefgfnhhoidbdaa.GrW
open Go.RowKit Go.Proofs.YtefgfnhhoidbdaaW.PrintWords Go.Proofs.YtefgfnhhoidbdaaW.PrintLast Go.Proofs.Ytefgfnhhoidbdaa.X Go.Proofs.Ytefgfnhhoidbdaa.Gr
set_option linter.unusedVariables false
set_option linter.unusedSimpArgs false
theorem build_refused (nodes : Int) (A1 : Option Addr) (c1 : Nat) (l : List S29) (w : World) (h : nodes < 0 ∨ 60 < nodes ∨ 150 < l.length) : Calls Try.prog 15 #[.int .i64 nodes, .slice A1 l.length c1] w fun e w' => e = .returned (.tuple #[.pointer none, .slice none 0 0, .bool false]) ∧ Below w.heap.size w w' := by
  by_cases h1 : nodes < 0
  · exact build_neg nodes A1 c1 l w h1
  · by_cases h2 : 60 < nodes
    · exact build_over nodes A1 c1 l w h2
    · exact build_long nodes A1 c1 l w (by omega) (by omega) (by omega)
set_option maxHeartbeats 16000000 in
set_option maxRecDepth 100000 in
theorem least_refused (nodes : Int) (A1 : Option Addr) (c1 : Nat) (l : List S29) (A2 : Option Addr) (c2 : Nat) (set : List Bool) (w : World) (h : nodes < 0 ∨ 60 < nodes ∨ 150 < l.length) : Calls Try.prog 4 #[.int .i64 nodes, .slice A1 l.length c1, .slice A2 set.length c2] w fun e w' => e = .returned (.bool true) ∧ Below w.heap.size w w' := by
  have HB := Aside0.mk (Below.refl w.heap.size w)
  have tok_1 : True := trivial
  have tok_2 : True := trivial
  have HBU := Lib.hid (fun W => build_refused nodes A1 c1 l W h)
  clear h
  go_enter Try.func4, Try.ntmps4
  go_wp2_with (first | (clear tok_1; go_at_call 10; (with_reducible refine (comes_any _).mono ?_); rintro e w1 ⟨rfl, hb⟩; have h1 := pxs HB hb; clear HB hb; have HB := h1; clear h1) | (clear tok_2; go_at_call 15; (with_reducible refine (HBU.out _).mono ?_); rintro e w2 ⟨rfl, hb⟩; have h1 := pxs HB hb; clear HB hb; have HB := h1; clear h1))
  go_ret
  exact ⟨rfl, pxb HB⟩
end Go.Proofs.Ytefgfnhhoidbdaa.GrW
