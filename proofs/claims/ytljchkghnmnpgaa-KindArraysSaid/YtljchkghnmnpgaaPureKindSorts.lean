/- The head that each law asks first answers true; no condition. -/
import Derived.Test.YtljchkghnmnpgaaPureKindMore
import Derived.Test.YtljchkghnmnpgaaX9
namespace Go.Proofs.Ytljchkghnmnpgaa.Pure
open Go.RowKit Go.Proofs.Ytljchkghnmnpgaa.X Go.Proofs.YtljchkghnmnpgaaW.PrintWords Go.Proofs.YtljchkghnmnpgaaW.PrintLast
set_option maxRecDepth 100000 in
theorem sorts_any : Ev (fun k => caulkerlaw10_sorts.f k) true := Ev.of (fun k => caulkerlaw10_sorts.mono k) (k := 40) (by decide +kernel)
end Go.Proofs.Ytljchkghnmnpgaa.Pure
