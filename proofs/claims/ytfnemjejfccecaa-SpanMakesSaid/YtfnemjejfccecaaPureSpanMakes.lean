/- Any begin and end make a span, or none, and a span may be of a text or not, as the statement SpanMakes says; every input. -/
import Derived.Test.YtfnemjejfccecaaX3
import Derived.Test.YtfnemjejfccecaaPureSpanLib
namespace Go.Proofs.Ytfnemjejfccecaa.Pure
open Go.RowKit Go.Proofs.Ytfnemjejfccecaa.X Go.Proofs.YtfnemjejfccecaaW.PrintWords Go.Proofs.YtfnemjejfccecaaW.PrintLast

theorem makes_j2 (a0 a1 : Int) (good : Bool) (hg : good = okS a0 a1) : Ev (fun k => caulkerlaw01_SpanMakes.j2 k a0 a1 good false a0 a1) true := by
  refine Ev.step (fun k => by rw [caulkerlaw01_SpanMakes.j2]) (Ev.neg (by decide) ?_)
  by_cases h : good = true
  · refine Ev.pos h (Ev.bind (len_any a0 a1) (Ev.cast (Ev.now _) ?_))
    have h' := okS_iff.1 (hg ▸ h)
    unfold lenS
    rw [if_pos (hg ▸ h), wrap_id (by omega) (by omega)]
    simp
  · refine Ev.neg h (Ev.bind (len_any a0 a1) (Ev.cast (Ev.now _) ?_))
    unfold lenS
    rw [if_neg (hg ▸ h)]
    rfl
theorem makes_j1 (a0 a1 a2 : Int) (good : Bool) (hg : good = okS a0 a1) : Ev (fun k => caulkerlaw01_SpanMakes.j1 k a0 a1 a2 good false) true := by
  refine Ev.step (fun k => by rw [caulkerlaw01_SpanMakes.j1]) (Ev.neg (by decide) ?_)
  have hj := makes_j2 a0 a1 good hg
  by_cases h : good = true
  · have h' := okS_iff.1 (hg ▸ h)
    by_cases h2 : a2 ≥ a1
    · by_cases h3 : a2 ≤ 65536
      · refine Ev.bind (Ev.eq (check_yes ⟨h'.1, h'.2.1, h2, h3⟩)) (Ev.pos h (Ev.pos h2 (Ev.neg (by simp [h3]) (Ev.pos rfl hj))))
      · refine Ev.bind (Ev.eq (check_no (by omega))) (Ev.pos h (Ev.pos h2 (Ev.neg (by simp [h3]) (Ev.neg (by decide) hj))))
    · refine Ev.bind (Ev.eq (check_no (by omega))) (Ev.pos h (Ev.neg h2 (Ev.neg (by decide) (Ev.neg (by decide) hj))))
  · have h' := okS_not.1 (hg ▸ (Bool.not_eq_true _ ▸ h))
    refine Ev.bind (Ev.eq (check_no (by omega))) (Ev.neg h (Ev.neg (by decide) (Ev.neg (by decide) hj)))
theorem SpanMakes : caulkerlaw01_SpanMakes.Pure := by
  intro a0 a1 a2 w0 w1 w2
  apply Ev.rounds
  unfold caulkerlaw01_SpanMakes.f
  refine Ev.bind spans_any (Ev.pos rfl ?_)
  by_cases h : okS a0 a1 = true
  · have h' := okS_iff.1 h
    have hj : Ev (fun k => caulkerlaw01_SpanMakes.j0 k a0 a1 a2 0 true a0 a1) true := by
      refine Ev.step (fun k => by rw [caulkerlaw01_SpanMakes.j0]) (Ev.neg (by decide) (Ev.pos rfl (Ev.pos rfl (Ev.pos rfl (Ev.pos rfl ?_)))))
      exact makes_j1 a0 a1 a2 true h.symm
    refine Ev.bind (Ev.eq (of_yes h)) (Ev.pos (by omega) (Ev.pos (by omega) ?_))
    rw [show decide (a1 ≤ 65536) = true by simp; omega]
    exact hj
  · rw [Bool.not_eq_true] at h
    have h' := okS_not.1 h
    have hj : Ev (fun k => caulkerlaw01_SpanMakes.j0 k a0 a1 a2 1 false 0 0) true := by
      refine Ev.step (fun k => by rw [caulkerlaw01_SpanMakes.j0]) (Ev.neg (by decide) (Ev.neg (by decide) (Ev.pos rfl (Ev.neg (by decide) ?_))))
      exact makes_j1 a0 a1 a2 false h.symm
    refine Ev.bind (Ev.eq (of_no h)) ?_
    by_cases h1 : a0 ≥ 0
    · refine Ev.pos h1 ?_
      by_cases h2 : a1 ≥ a0
      · refine Ev.pos h2 ?_
        rw [show decide (a1 ≤ 65536) = false by simp; omega]
        exact hj
      · exact Ev.neg h2 hj
    · exact Ev.neg h1 hj
end Go.Proofs.Ytfnemjejfccecaa.Pure
