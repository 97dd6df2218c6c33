/- The way back costs the same, as the statement DiffBack says; every input. -/
import Derived.Test.YtoljmjhmieaggaaX5
import Derived.Test.YtoljmjhmieaggaaPureDiffFar
namespace Go.Proofs.Ytoljmjhmieaggaa.Pure
open Go.RowKit Go.Proofs.Ytoljmjhmieaggaa.X Go.Proofs.YtoljmjhmieaggaaW.PrintWords Go.Proofs.YtoljmjhmieaggaaW.PrintLast Go.Diff Go.Proofs.Ytoljmjhmieaggaa.Ed
theorem DiffBack : caulkerlaw04_DiffBack.Pure := by
  intro a b _ _
  apply Ev.rounds
  have yes : ∀ q, q = true → Ev (fun k => caulkerlaw04_DiffBack.j0 k a b q) true := by
    rintro q rfl
    refine Ev.step (fun k => by rw [caulkerlaw04_DiffBack.j0]) ?_
    exact Ev.pos rfl (Ev.now_ _)
  unfold caulkerlaw04_DiffBack.f
  refine Ev.bind finds_any (Ev.pos rfl (Ev.ite (fun _ => yes _ rfl) (fun h1 => ?_)))
  by_cases h2 : (b.size : Int) > 250
  · exact yes _ (decide_eq_true h2)
  rw [decide_eq_false h2]
  obtain ⟨D, hD⟩ := Dist.exists (same a b) a.size b.size
  have hb := hD.bounds
  have f1 := far_ev a b (by omega) (by omega) hD
  have f2 := far_ev b a (by omega) (by omega) (dist_flip hD)
  rw [if_pos (by omega)] at f1 f2
  refine Ev.step (fun k => by rw [caulkerlaw04_DiffBack.j0]) ?_
  refine Ev.neg (by simp) (Ev.bind f1 (Ev.bind f2 (Ev.pos rfl (Ev.pos rfl (Ev.pos rfl (Ev.pos ?_ (Ev.pos ?_ (Ev.cast (Ev.now_ _) ?_))))))))
  · rw [wrap_id (by omega) (by omega)]
    show (D : Int) ≤ _
    omega
  · rw [wrap_id (by omega) (by omega), wrap_id (by omega) (by omega)]
    show (D : Int) ≥ mx _ _
    unfold mx
    split <;> omega
  · have h0 := dist_zero hD
    by_cases h : a = b
    · have hz := h0.2 h
      subst hz
      rw [h]
      simp
    · have hz : D ≠ 0 := fun hz => h (h0.1 hz)
      have e1 : ((D : Int) == 0) = false := by simpa using hz
      have e2 : (a.toList == b.toList) = false := by rw [beq_eq_false_iff_ne]; exact fun hh => h (toList_iff.1 hh)
      show (((D : Int) == 0) == (a.toList == b.toList)) = true
      rw [e1, e2]
      rfl
end Go.Proofs.Ytoljmjhmieaggaa.Pure
