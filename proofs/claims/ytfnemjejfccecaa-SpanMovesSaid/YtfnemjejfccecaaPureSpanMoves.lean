/- A span that is moved has as many bytes as it had, so many places on, as the statement SpanMoves says; every input. -/
import Derived.Test.YtfnemjejfccecaaX5
import Derived.Test.YtfnemjejfccecaaPureSpanLib
import Derived.Test.YtfnemjejfccecaaPureSpanMay
namespace Go.Proofs.Ytfnemjejfccecaa.Pure
open Go.RowKit Go.Proofs.Ytfnemjejfccecaa.X Go.Proofs.YtfnemjejfccecaaW.PrintWords Go.Proofs.YtfnemjejfccecaaW.PrintLast
theorem moves_refused (a1 f t : Int) (x7 : Bool) (h : x7 = true → ¬ (f ≥ wrap64 (-a1) ∧ t ≤ wrap64 (65536 - a1))) : Ev (fun k => caulkerlaw01_SpanMoves.j0 k a1 1 x7 f t 0 0) true := by
  refine Ev.step (fun k => by rw [caulkerlaw01_SpanMoves.j0]) ?_
  by_cases h7 : x7 = true
  · refine Ev.pos h7 ?_
    by_cases h1 : f ≥ wrap64 (-a1)
    · exact Ev.pos h1 (Ev.neg (fun h2 => h h7 ⟨h1, h2⟩) (Ev.pos rfl (Ev.now _)))
    · exact Ev.neg h1 (Ev.pos rfl (Ev.now _))
  · exact Ev.neg h7 (Ev.pos rfl (Ev.now _))
theorem SpanMoves : caulkerlaw01_SpanMoves.Pure := by
  intro f t a1 hg w1
  have wa := wf_range w1
  apply Ev.rounds
  unfold caulkerlaw01_SpanMoves.f
  refine Ev.bind spans_any (Ev.pos rfl ?_)
  by_cases hok : okS f t = true
  · have h' := okS_iff.1 hok
    by_cases ha : a1 > 65536
    · refine Ev.bind (a := (0, 0, 1)) (by unfold span_Move.f; exact Ev.bind (right_one f t) (Ev.pos hok (Ev.pos ha (Ev.now _)))) (Ev.bind (Ev.eq (may_any f t)) (Ev.pos hok (Ev.pos (by omega) ?_)))
      exact moves_refused a1 f t _ (fun h => by simp at h; omega)
    · by_cases hb : a1 < -65536
      · refine Ev.bind (a := (0, 0, 1)) (by unfold span_Move.f; exact Ev.bind (right_one f t) (Ev.pos hok (Ev.neg ha (Ev.pos hb (Ev.now _))))) (Ev.bind (Ev.eq (may_any f t)) (Ev.pos hok (Ev.neg (by omega) ?_)))
        exact moves_refused a1 f t _ (fun h => by simp at h)
      · have e1 : wrap64 (f + a1) = f + a1 := wrap_id (by omega) (by omega)
        have e2 : wrap64 (t + a1) = t + a1 := wrap_id (by omega) (by omega)
        have e3 : wrap64 (-a1) = -a1 := wrap_id (by omega) (by omega)
        have e4 : wrap64 (65536 - a1) = 65536 - a1 := wrap_id (by omega) (by omega)
        by_cases hm : okS (f + a1) (t + a1) = true
        · have hm' := okS_iff.1 hm
          refine Ev.bind (a := (f + a1, t + a1, 0)) (by unfold span_Move.f; exact Ev.bind (right_one f t) (Ev.pos hok (Ev.neg ha (Ev.neg hb (Ev.bind (Ev.eq (by rw [e1, e2]; exact of_yes hm)) (Ev.now _)))))) (Ev.bind (Ev.eq (may_any f t)) (Ev.pos hok (Ev.pos (by omega) ?_)))
          refine Ev.step (fun k => by rw [caulkerlaw01_SpanMoves.j0]) (Ev.pos (by simp; omega) (Ev.pos (by rw [e3]; omega) (Ev.pos (by rw [e4]; omega) (Ev.pos rfl (Ev.pos ?_ (Ev.cast (Ev.now _) ?_))))))
          · rw [show f + a1 - f = a1 by omega, wrap_id (by omega) (by omega)]
          · rw [show t + a1 - t = a1 by omega, wrap_id (by omega) (by omega)]
            simp
        · rw [Bool.not_eq_true] at hm
          have hm' := okS_not.1 hm
          refine Ev.bind (a := (0, 0, 1)) (by unfold span_Move.f; exact Ev.bind (right_one f t) (Ev.pos hok (Ev.neg ha (Ev.neg hb (Ev.bind (Ev.eq (by rw [e1, e2]; exact of_no hm)) (Ev.now _)))))) (Ev.bind (Ev.eq (may_any f t)) (Ev.pos hok (Ev.pos (by omega) ?_)))
          exact moves_refused a1 f t _ (fun _ => by rw [e3, e4]; omega)
  · refine Ev.bind (a := (0, 0, 1)) (by unfold span_Move.f; exact Ev.bind (right_one f t) (Ev.neg hok (Ev.now _))) (Ev.bind (Ev.eq (may_any f t)) (Ev.neg hok ?_))
    exact moves_refused a1 f t _ (fun h => by simp at h)
end Go.Proofs.Ytfnemjejfccecaa.Pure
