/- Whether any edits may be made to any text, why they mayn't, and what it is behind them, is the reference's answer, as the statement EditApplies says; every input. -/
import Derived.Test.YtfnemjejfccecaaPureEditLib2
import Derived.Test.YtfnemjejfccecaaX9
namespace Go.Proofs.Ytfnemjejfccecaa.Pure
open Go.RowKit Go.Proofs.Ytfnemjejfccecaa.X Go.Proofs.YtfnemjejfccecaaW.PrintWords Go.Proofs.YtfnemjejfccecaaW.PrintLast Go.Proofs.Ytfnemjejfccecaa.Ed
theorem EditApplies : caulkerlaw03_EditApplies.Pure := by
  intro s l h1 h2 h3 hg
  apply Ev.rounds
  unfold caulkerlaw03_EditApplies.f
  refine Ev.bind edits_any (Ev.pos rfl (Ev.bind (small_any s l) ?_))
  refine Ev.ite (fun _ => ?_) (fun _ => Ev.now _)
  refine Ev.bind (apply_any s l h2) (Ev.bind (ref_apply_any s l h2) (Ev.pos rfl (Ev.pos rfl ?_)))
  refine Ev.bind (edit_check_any _ _ h2) (Ev.bind (ref_check_any _ _ h2) (Ev.cast (Ev.now _) ?_))
  simp
end Go.Proofs.Ytfnemjejfccecaa.Pure
