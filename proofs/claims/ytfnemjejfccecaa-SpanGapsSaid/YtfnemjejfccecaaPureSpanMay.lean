/- What caulkerlaw01.may answers; every input. -/
import Derived.Test.YtfnemjejfccecaaX19
import Derived.Test.YtfnemjejfccecaaPureSpanLib
namespace Go.Proofs.Ytfnemjejfccecaa.Pure
open Go.RowKit Go.Proofs.Ytfnemjejfccecaa.X Go.Proofs.YtfnemjejfccecaaW.PrintWords Go.Proofs.YtfnemjejfccecaaW.PrintLast
theorem may_any (f t : Int) : caulkerlaw01_may.f f t = some (okS f t) := by
  unfold caulkerlaw01_may.f okS
  by_cases h1 : f ≥ 0
  · by_cases h2 : f ≤ t
    · simp [h1, h2, show (0 : Int) ≤ f from h1]
    · simp [h1, h2, show (0 : Int) ≤ f from h1]
  · simp [h1, show ¬ (0 : Int) ≤ f from h1]
end Go.Proofs.Ytfnemjejfccecaa.Pure
