/- What the laid tables tell: the library's table of powers; and that the door's run lays them. -/
import Derived.Test.YtimhbepecnmjeaaDoorRows
import Derived.Test.YtimhbepecnmjeaaDoorLinesW4
import Derived.ProofKit
import Derived.LaidMore
import Derived.Lib.LaidTab
import Derived.Stop.LaidErr
namespace Go.Proofs.YtimhbepecnmjeaaDoor.LawLib
open Go Go.RowKit Go.Proofs.YtimhbepecnmjeaaDoorW.PrintWords
set_option linter.unusedVariables false
theorem pair_open {w : World} {x : Int × Int} {cs : List Value} (h : (Kd.pair (Kd.int .i64) (Kd.int .i64)).K w x cs) : cs = [.int .i64 x.1, .int .i64 x.2] := by
  obtain ⟨c1, c2, rfl, h1, h2⟩ := h
  rw [show c1 = [.int .i64 x.1] from h1, show c2 = [.int .i64 x.2] from h2]
  rfl
def laidL : List (String × DataW Unit) := [("math/bits.deBruijn32tab", Rows.laid_math_bits_deBruijn32tab), ("math/bits.deBruijn64tab", Rows.laid_math_bits_deBruijn64tab), ("internal/strconv.uint64pow10", Rows.laid_internal_strconv_uint64pow10)]
theorem door_met (os : Os) (args : Array Value) : laidMetH Tryd.prog laidL ((World.doorLaid Tryd.prog 400 os).forCall (fun _ _ => 0) ⟨#[], args, []⟩).memory :=
  laidMetH_of_parts3 (fuel := 8) (laidMet_of_run' 8 (by kernel_rfl) (by kernel_rfl)) (by kernel_rfl) (by kernel_rfl)
theorem tt_of_laid {W : World} (h : laidMetH Tryd.prog laidL W) : LiW.TT W := by
  rw [MakeChecks.laidMetH_plain _ _ _ (by kernel_rfl)] at h
  have h3 : laidMet Tryd.prog [("internal/strconv.uint64pow10", Lib.tabData .u64 Lib.pow10Tab)] W := (laidMet.tail (laidMet.tail h))
  have hs : (Tryd.prog.globalNamed "internal/strconv.uint64pow10").isSome = true := by kernel_rfl
  obtain ⟨g, hg⟩ := Option.isSome_iff_exists.1 hs
  have ht : ((Tryd.prog.globalNamed "internal/strconv.uint64pow10").bind fun g => (Tryd.prog.globals[g]?).map (·.type)) = some 105 := by kernel_rfl
  rw [hg] at ht
  exact Lib.tabIs_of_head hg ht Tryd.underlying105 Tryd.underlying93 (by kernel_rfl) (by kernel_rfl) h3
end Go.Proofs.YtimhbepecnmjeaaDoor.LawLib
