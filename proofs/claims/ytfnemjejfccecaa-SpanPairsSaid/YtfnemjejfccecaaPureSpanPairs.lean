/- Of any two spans: which stands first, whether one holds the other, whether they lie apart, and what is in both, as the statement SpanPairs says; every input. -/
import Derived.Test.YtfnemjejfccecaaX7
import Derived.Test.YtfnemjejfccecaaPureSpanCovers
namespace Go.Proofs.Ytfnemjejfccecaa.Pure
open Go.RowKit Go.Proofs.Ytfnemjejfccecaa.X Go.Proofs.YtfnemjejfccecaaW.PrintWords Go.Proofs.YtfnemjejfccecaaW.PrintLast Go.Proofs.YtfnemjejfccecaaW.PrintMore

def ordI (a b : Int) : Int := if a < b then -1 else if a > b then 1 else 0
def ordS (f t f' t' : Int) : Int := if ordI f f' = 0 then ordI t t' else ordI f f'
theorem cmp_any (a b : Int) : cmp_Compare_int.f a b = some (ordI a b) := by
  unfold cmp_Compare_int.f cmp_isNaN_int.f ordI
  simp only [bne_self_eq_false, Option.bind_some]
  rw [if_neg (by decide), if_neg (by decide)]
  by_cases h : a < b
  · rw [if_pos h, if_pos h]
  · rw [if_neg h, if_neg h]
    by_cases h2 : a > b
    · rw [if_pos h2, if_pos h2]
    · rw [if_neg h2, if_neg h2]
theorem compare_any (f t f' t' : Int) : span_Compare.f f t f' t' = some (ordS f t f' t') := by
  unfold span_Compare.f ordS
  rw [cmp_any, Option.bind_some]
  by_cases h : ordI f f' = 0
  · rw [if_pos h, if_pos h, cmp_any, Option.bind_some]
  · rw [if_neg h, if_neg h]
theorem meet_no (f t f' t' : Int) (h : (okS f t && okS f' t') = false ∨ mn t t' ≤ mx f f') : Ev (fun k => span_Meet.f k f t f' t') (0, 0, false) := by
  unfold span_Meet.f
  refine Ev.bind (right_two f t f' t') ?_
  by_cases e : (okS f t && okS f' t') = true
  · rcases h with h | h
    · rw [h] at e; cases e
    · exact Ev.pos e (Ev.pos h (Ev.now _))
  · exact Ev.neg e (Ev.now _)
theorem meet_yes (f t f' t' : Int) (h : (okS f t && okS f' t') = true) (h2 : ¬ mn t t' ≤ mx f f') : Ev (fun k => span_Meet.f k f t f' t') (mx f f', mn t t', true) := by
  unfold span_Meet.f
  exact Ev.bind (right_two f t f' t') (Ev.pos h (Ev.neg h2 (Ev.now _)))
theorem mn_spec (a b : Int) : mn a b ≤ a ∧ mn a b ≤ b ∧ (mn a b = a ∨ mn a b = b) := by
  rw [mn_eq]
  by_cases e : b < a
  · rw [if_pos e]; omega
  · rw [if_neg e]; omega
theorem mx_spec (a b : Int) : a ≤ mx a b ∧ b ≤ mx a b ∧ (mx a b = a ∨ mx a b = b) := by
  rw [mx_eq]
  by_cases e : a < b
  · rw [if_pos e]; omega
  · rw [if_neg e]; omega

theorem apart_of (f t f' t' : Int) (h : okS f t = true) (h' : okS f' t' = true) : apartS f t f' t' = (!(decide (f = f') && decide (t = t') && decide (t ≤ f)) && (decide (t ≤ f') || decide (t' ≤ f))) := by
  unfold apartS
  rw [h, h', Bool.true_and, Bool.true_and]
theorem pairs_j7 (f t f' t' : Int) (x8 : Bool) (h : okS f t = true) (h' : okS f' t' = true) (h8 : x8 = decide (mx f f' < mn t t')) :
    Ev (fun k => caulkerlaw01_SpanPairs.j7 k x8 (decide (f ≤ f') && decide (t' ≤ t)) (decide (t ≤ f') || decide (t' ≤ f)) (decide (f = f') && decide (t = t') && decide (f = t)) f t f' t') true := by
  have a := okS_iff.1 h
  have b := okS_iff.1 h'
  have hold : (okS f t && okS f' t' && decide (f ≤ f') && decide (t' ≤ t)) = (decide (f ≤ f') && decide (t' ≤ t)) := by rw [h, h']; simp
  refine Ev.step (fun k => by rw [caulkerlaw01_SpanPairs.j7]) ?_
  by_cases e : f = f' ∧ t = t' ∧ f = t
  · obtain ⟨rfl, rfl, rfl⟩ := e
    refine Ev.pos (by simp) (Ev.bind (holds_any _ _ _ _) (Ev.pos (by rw [hold]; simp) (Ev.bind (apart_any _ _ _ _) (Ev.pos ?_ (Ev.bind (apart_any _ _ _ _) (Ev.pos ?_ (Ev.now _)))))))
    · rw [apart_of _ _ _ _ h h']; simp
    · rw [apart_of _ _ _ _ h h']; simp
  · have e1 : (decide (f = f') && decide (t = t') && decide (f = t)) = false := by
      rw [← Bool.not_eq_true, Bool.and_eq_true, Bool.and_eq_true]
      simp only [decide_eq_true_eq]
      omega
    have e2 : (decide (f = f') && decide (t = t') && decide (t ≤ f)) = false := by
      rw [← Bool.not_eq_true, Bool.and_eq_true, Bool.and_eq_true]
      simp only [decide_eq_true_eq]
      omega
    have e3 : (decide (f' = f) && decide (t' = t) && decide (t' ≤ f')) = false := by
      rw [← Bool.not_eq_true, Bool.and_eq_true, Bool.and_eq_true]
      simp only [decide_eq_true_eq]
      omega
    have a1 : apartS f t f' t' = (decide (t ≤ f') || decide (t' ≤ f)) := by rw [apart_of _ _ _ _ h h', e2]; simp
    have a2 : apartS f' t' f t = (decide (t ≤ f') || decide (t' ≤ f)) := by rw [apart_of _ _ _ _ h' h, e3, Bool.or_comm]; simp
    refine Ev.neg (by rw [e1]; decide) (Ev.bind (holds_any _ _ _ _) (Ev.pos (by rw [hold]; simp) (Ev.bind (apart_any _ _ _ _) (Ev.pos (by rw [a1]; simp) (Ev.bind (apart_any _ _ _ _) (Ev.pos (by rw [a2]; simp) ?_))))))
    by_cases e4 : (decide (t ≤ f') || decide (t' ≤ f)) = true
    · refine Ev.pos e4 (Ev.cast (Ev.now _) ?_)
      rw [h8, Bool.not_eq_true', decide_eq_false_iff_not]
      rw [Bool.or_eq_true, decide_eq_true_eq, decide_eq_true_eq] at e4
      have := mn_spec t t'
      have := mx_spec f f'
      omega
    · exact Ev.neg e4 (Ev.now _)
theorem pairs_j4 (f t f' t' : Int) (x8 : Bool) (h : okS f t = true) (h' : okS f' t' = true) (h8 : x8 = decide (mx f f' < mn t t')) : Ev (fun k => caulkerlaw01_SpanPairs.j4 k x8 false f t f' t') true := by
  have j7 := pairs_j7 f t f' t' x8 h h' h8
  have j6 : Ev (fun k => caulkerlaw01_SpanPairs.j6 k x8 (decide (f ≤ f') && decide (t' ≤ t)) (decide (t ≤ f') || decide (t' ≤ f)) f t f' t') true := by
    refine Ev.step (fun k => by rw [caulkerlaw01_SpanPairs.j6]) ?_
    by_cases e : f = f' ∧ t = t'
    · refine Ev.pos (by simp [e.1, e.2]) ?_
      rw [show (f == t) = (decide (f = f') && decide (t = t') && decide (f = t)) by simp [e.1, e.2]; rfl]
      exact j7
    · refine Ev.neg (by simpa using fun a b => e ⟨a, b⟩) ?_
      rw [show (decide (f = f') && decide (t = t') && decide (f = t)) = false by
        rw [← Bool.not_eq_true, Bool.and_eq_true, Bool.and_eq_true]
        simp only [decide_eq_true_eq]
        exact fun z => e z.1] at j7
      exact j7
  have j5 : Ev (fun k => caulkerlaw01_SpanPairs.j5 k x8 (decide (f ≤ f') && decide (t' ≤ t)) f t f' t') true := by
    refine Ev.step (fun k => by rw [caulkerlaw01_SpanPairs.j5]) ?_
    by_cases e : t ≤ f'
    · refine Ev.pos e ?_
      rw [show (decide (t ≤ f') || decide (t' ≤ f)) = true by simp [e]] at j6
      exact j6
    · refine Ev.neg e ?_
      rw [show (decide (t ≤ f') || decide (t' ≤ f)) = decide (t' ≤ f) by simp [e]] at j6
      exact j6
  refine Ev.step (fun k => by rw [caulkerlaw01_SpanPairs.j4]) (Ev.neg (by decide) ?_)
  by_cases e : f ≤ f'
  · refine Ev.pos e ?_
    rw [show (decide (f ≤ f') && decide (t' ≤ t)) = decide (t' ≤ t) by simp [e]] at j5
    exact j5
  · refine Ev.neg e ?_
    rw [show (decide (f ≤ f') && decide (t' ≤ t)) = false by simp [e]] at j5
    exact j5
theorem pairs_j2 (f t f' t' : Int) : Ev (fun k => caulkerlaw01_SpanPairs.j2 k false f t f' t') true := by
  refine Ev.step (fun k => by rw [caulkerlaw01_SpanPairs.j2]) (Ev.neg (by decide) ?_)
  by_cases h : (okS f t && okS f' t') = true
  · obtain ⟨ha, hb⟩ := Bool.and_eq_true _ _ ▸ h
    by_cases h2 : mn t t' ≤ mx f f'
    · refine Ev.bind (meet_no f t f' t' (.inr h2)) (Ev.bind (Ev.eq (may_any _ _)) (Ev.pos ha (Ev.bind (Ev.eq (may_any _ _)) ?_)))
      rw [hb]
      refine Ev.step (fun k => by rw [caulkerlaw01_SpanPairs.j3]) (Ev.neg (by decide) (Ev.neg ?_ (Ev.neg (by simp) ?_)))
      · rw [show decide (mx f f' < mn t t') = false by simp; omega]; simp
      · exact pairs_j4 f t f' t' false ha hb (by simp; omega)
    · refine Ev.bind (meet_yes f t f' t' h h2) (Ev.bind (Ev.eq (may_any _ _)) (Ev.pos ha (Ev.bind (Ev.eq (may_any _ _)) ?_)))
      rw [hb]
      refine Ev.step (fun k => by rw [caulkerlaw01_SpanPairs.j3]) (Ev.neg (by decide) (Ev.neg ?_ (Ev.pos rfl (Ev.neg (by simp) ?_))))
      · rw [show decide (mx f f' < mn t t') = true by simp; omega]; simp
      · exact pairs_j4 f t f' t' true ha hb (by simp; omega)
  · have h0 : (okS f t && okS f' t') = false := by rw [← Bool.not_eq_true]; exact h
    have j3 : Ev (fun k => caulkerlaw01_SpanPairs.j3 k false true f t f' t' 0 0) true := by
      refine Ev.step (fun k => by rw [caulkerlaw01_SpanPairs.j3]) ?_
      refine (Ev.pos rfl (Ev.neg (by decide) (Ev.pos rfl (Ev.bind (holds_any _ _ _ _) (Ev.neg (by rw [h0]; simp) (Ev.bind (apart_any _ _ _ _) (Ev.cast (Ev.now _) ?_)))))))
      unfold apartS
      rw [h0]
      rfl
    refine Ev.bind (meet_no f t f' t' (.inl h0)) (Ev.bind (Ev.eq (may_any _ _)) ?_)
    by_cases ha : okS f t = true
    · refine Ev.pos ha (Ev.bind (Ev.eq (may_any _ _)) ?_)
      rw [ha, Bool.true_and] at h0
      rw [h0]
      exact j3
    · exact Ev.neg ha j3
theorem pairs_j1 (f t f' t' x : Int) (hx : x = ordS f t f' t') : Ev (fun k => caulkerlaw01_SpanPairs.j1 k x f t f' t') true := by
  subst hx
  refine Ev.step (fun k => by rw [caulkerlaw01_SpanPairs.j1]) (Ev.bind (Ev.eq (compare_any _ _ _ _)) ?_)
  refine Ev.neg (by simp) ?_
  have e : (decide (ordS f t f' t' > 0) != decide (ordS f t f' t' > 0)) = false := by simp
  rw [e]
  exact pairs_j2 f t f' t'
theorem SpanPairs : caulkerlaw01_SpanPairs.Pure := by
  intro f t f' t' g1 g2
  apply Ev.rounds
  unfold caulkerlaw01_SpanPairs.f
  refine Ev.bind spans_any (Ev.pos rfl ?_)
  have less : ordS f t f' t' = -1 → Ev (fun k => caulkerlaw01_SpanPairs.j0 k 0 true f t f' t') true := fun h =>
    Ev.step (fun k => by rw [caulkerlaw01_SpanPairs.j0]) (Ev.pos rfl (pairs_j1 f t f' t' _ h.symm))
  have more : ordS f t f' t' = (if f = f' ∧ t = t' then 0 else 1) → Ev (fun k => caulkerlaw01_SpanPairs.j0 k 0 false f t f' t') true := by
    intro h
    refine Ev.step (fun k => by rw [caulkerlaw01_SpanPairs.j0]) (Ev.neg (by decide) ?_)
    by_cases e : f = f' ∧ t = t'
    · rw [if_pos e] at h
      exact Ev.neg (by simp [e.1, e.2]) (pairs_j1 f t f' t' _ h.symm)
    · rw [if_neg e] at h
      refine Ev.pos ?_ (pairs_j1 f t f' t' _ h.symm)
      by_cases a : f = f'
      · have b : ¬ t = t' := fun b => e ⟨a, b⟩
        simp [b]
      · simp [a]
  by_cases h1 : f < f'
  · refine Ev.pos h1 (less ?_)
    simp [ordS, ordI, h1]
  · refine Ev.neg h1 ?_
    by_cases h2 : f = f'
    · refine Ev.pos h2 ?_
      by_cases h3 : t < t'
      · rw [show decide (t < t') = true by simp [h3]]
        exact less (by simp [ordS, ordI, h2, h3])
      · rw [show decide (t < t') = false by simp [h3]]
        refine more ?_
        by_cases h4 : t = t'
        · simp [ordS, ordI, h2, h4]
        · have h5 : t > t' := by omega
          simp [ordS, ordI, h2, h3, h4, h5]
    · refine Ev.neg h2 (more ?_)
      have h5 : f > f' := by omega
      simp [ordS, ordI, h1, h2, h5]
end Go.Proofs.Ytfnemjejfccecaa.Pure
