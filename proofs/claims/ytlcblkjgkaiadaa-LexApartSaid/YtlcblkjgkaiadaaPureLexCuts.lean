/- The chapter's example is cut as the document says. -/
import Derived.Test.YtlcblkjgkaiadaaEvKit
import Derived.Test.YtlcblkjgkaiadaaX8
namespace Go.Proofs.Ytlcblkjgkaiadaa.Pure
open Go.RowKit Go.Proofs.Ytlcblkjgkaiadaa.X Go.Proofs.YtlcblkjgkaiadaaW.PrintWords Go.Proofs.YtlcblkjgkaiadaaW.PrintLast
theorem cuts_any : Ev (fun k => caulkerlaw06_cuts.f k) true := Ev.of caulkerlaw06_cuts.mono (k := 40) (by decide +kernel)
end Go.Proofs.Ytlcblkjgkaiadaa.Pure
