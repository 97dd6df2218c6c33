/- By way of a third text it costs no less, as the statement DiffTriangle says; every input. -/
import Derived.Test.YtoljmjhmieaggaaX6
import Derived.Test.YtoljmjhmieaggaaPureDiffFar
namespace Go.Proofs.Ytoljmjhmieaggaa.Pure
open Go.RowKit Go.Proofs.Ytoljmjhmieaggaa.X Go.Proofs.YtoljmjhmieaggaaW.PrintWords Go.Proofs.YtoljmjhmieaggaaW.PrintLast Go.Diff Go.Proofs.Ytoljmjhmieaggaa.Ed
theorem DiffTriangle : caulkerlaw04_DiffTriangle.Pure := by
  intro a b c _ _ _
  apply Ev.rounds
  have yes : ∀ q, q = true → Ev (fun k => caulkerlaw04_DiffTriangle.j0 k a b c q) true := by
    rintro q rfl
    refine Ev.step (fun k => by rw [caulkerlaw04_DiffTriangle.j0]) ?_
    exact Ev.pos rfl (Ev.now_ _)
  unfold caulkerlaw04_DiffTriangle.f
  refine Ev.bind finds_any (Ev.pos rfl (Ev.ite (fun _ => yes _ rfl) (fun h1 => Ev.ite (fun _ => yes _ rfl) (fun h2 => ?_))))
  by_cases h3 : (c.size : Int) > 120
  · exact yes _ (decide_eq_true h3)
  rw [decide_eq_false h3]
  obtain ⟨D1, hD1⟩ := Dist.exists (same a b) a.size b.size
  obtain ⟨D2, hD2⟩ := Dist.exists (same b c) b.size c.size
  obtain ⟨D3, hD3⟩ := Dist.exists (same a c) a.size c.size
  have b1 := hD1.bounds
  have b2 := hD2.bounds
  have b3 := hD3.bounds
  have f1 := far_ev a b (by omega) (by omega) hD1
  have f2 := far_ev b c (by omega) (by omega) hD2
  have f3 := far_ev a c (by omega) (by omega) hD3
  rw [if_pos (by omega)] at f1 f2 f3
  have ht := dist_then hD1 hD2 hD3
  refine Ev.step (fun k => by rw [caulkerlaw04_DiffTriangle.j0]) ?_
  refine Ev.neg (by simp) (Ev.bind f1 (Ev.bind f2 (Ev.bind f3 (Ev.pos rfl (Ev.cast (Ev.now_ _) ?_)))))
  rw [decide_eq_true_iff, wrap_id (by omega) (by omega)]
  show (D3 : Int) ≤ D1 + D2
  omega
end Go.Proofs.Ytoljmjhmieaggaa.Pure
