/- GraphAdds, whatever is handed in. -/
import Derived.Test.YtefgfnhhoidbdaaGraphW10
namespace Go.Proofs.Ytefgfnhhoidbdaa.GrW
open Go.RowKit Go.Proofs.YtefgfnhhoidbdaaW.PrintWords Go.Proofs.YtefgfnhhoidbdaaW.PrintLast Go.Proofs.Ytefgfnhhoidbdaa.X Go.Proofs.Ytefgfnhhoidbdaa.Gr
theorem adds_any (nodes : Int) (A1 : Option Addr) (c1 : Nat) (l : List S29) (w : World) (hC : Kd.C k29 w A1 l.length l) : Calls Try.prog 3 #[.int .i64 nodes, .slice A1 l.length c1] w fun e w' => e = .returned (.bool true) ∧ Below w.heap.size w w' := by
  by_cases h1 : 150 < l.length
  · exact adds_long nodes A1 c1 l w h1
  · by_cases h2 : 9000 < nodes
    · exact adds_many nodes A1 c1 l w (by omega) h2
    · by_cases h3 : nodes < 0
      · exact adds_neg nodes A1 c1 l w (by omega) (by omega) h3
      · by_cases h4 : 8192 < nodes
        · exact adds_over nodes A1 c1 l w (by omega) (by omega) h4
        · obtain ⟨N, rfl⟩ := Int.eq_ofNat_of_zero_le (by omega : 0 ≤ nodes)
          exact adds_main N A1 c1 l w (by omega) (by omega) hC
end Go.Proofs.Ytefgfnhhoidbdaa.GrW
