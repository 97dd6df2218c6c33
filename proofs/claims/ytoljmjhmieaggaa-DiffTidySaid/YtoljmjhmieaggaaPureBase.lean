/- A function that answers at once; no condition. -/
import Derived.Test.YtoljmjhmieaggaaEvKit
namespace Go.Proofs.Ytoljmjhmieaggaa.Pure
open Go.RowKit Go.Proofs.YtoljmjhmieaggaaW.PrintWords
theorem Ev.now_ {α : Type} (r : α) : Ev (fun _ => some r) r := ⟨0, fun _ _ => rfl⟩
end Go.Proofs.Ytoljmjhmieaggaa.Pure
