/- Edits and then others, as one step, do what both do and cost no more, as the statement EditThen says; every input. -/
import Derived.Test.YtfnemjejfccecaaPureThenLib
import Derived.Test.YtfnemjejfccecaaX13
namespace Go.Proofs.Ytfnemjejfccecaa.Pure
open Go.RowKit Go.Proofs.Ytfnemjejfccecaa.X Go.Proofs.YtfnemjejfccecaaW.PrintWords Go.Proofs.YtfnemjejfccecaaW.PrintLast Go.Proofs.Ytfnemjejfccecaa.Ed
theorem EditThen : caulkerlaw03_EditThen.Pure := by
  intro s l m h1 h2 h3 h4 h5 h6 h7
  apply Ev.rounds
  unfold caulkerlaw03_EditThen.f
  have skip : Ev (fun k => caulkerlaw03_EditThen.j0 k s l m true) true := by
    refine Ev.step (fun k => by rw [caulkerlaw03_EditThen.j0]) ?_
    exact Ev.pos rfl (Ev.now _)
  refine Ev.bind edits_any (Ev.pos rfl (Ev.bind (small_any s l) (Ev.ite (fun hs1 => Ev.bind (small_any s m) ?_) (fun _ => skip))))
  by_cases hs2 : smallB s m = true
  · rw [hs2]
    have hn : s.size ≤ 4000 := by
      unfold smallB at hs2
      rw [Bool.and_eq_true] at hs2
      have := of_decide_eq_true hs2.1
      omega
    refine Ev.step (fun k => by rw [caulkerlaw03_EditThen.j0]) (Ev.neg (by decide) ?_)
    refine Ev.bind (then_any s hn l m h2 h5) (Ev.bind (ref_apply_any s l h2) ?_)
    unfold thenV
    by_cases h : (applyV s l).2 = 0
    · rw [if_pos h]
      refine Ev.pos h (Ev.bind (ref_apply_any _ m h5) ?_)
      by_cases h' : (applyV (applyV s l).1 m).2 = 0
      · rw [if_pos h']
        obtain ⟨hs, hP, hgr, ha⟩ := applied h
        obtain ⟨hs2, hP2, hgr2, ha2⟩ := applied h'
        obtain ⟨k1, k2⟩ := then_ok hn h h'
        have hz : (applyV s ((thenB s l m).map ofE)).2 = 0 := by rw [k1]; exact h'
        obtain ⟨t1, t2, t3, t4⟩ := tidied hz
        rw [map_toE_ofE] at t1 t2 t3 t4
        have htl := t2.len
        refine Ev.pos h' (Ev.bind (ref_apply_any s _ (Nat.le_trans htl (by decide))) (Ev.pos rfl ?_))
        rw [t1, k1]
        refine Ev.pos h' (Ev.pos rfl (Ev.bind (cost_any t2) (Ev.bind (cost_any hP) (Ev.bind (cost_any hP2) (Ev.cast (Ev.now _) ?_)))))
        rw [map_toE_ofE]
        have b1 := puts_le hP.ok
        have b2 := takes_le hP.ok
        have b3 := puts_le hP2.ok
        have b4 := takes_le hP2.ok
        have l1 := hP.len
        have l2 := hP2.len
        rw [wrap_id (by omega) (by omega)]
        exact decide_eq_true (by omega)
      · rw [if_neg h']
        exact Ev.neg h' (Ev.pos rfl (Ev.now _))
    · rw [if_neg h]
      exact Ev.neg h (Ev.pos rfl (Ev.now _))
  · rw [Bool.not_eq_true] at hs2
    rw [hs2]
    exact skip
end Go.Proofs.Ytfnemjejfccecaa.Pure
