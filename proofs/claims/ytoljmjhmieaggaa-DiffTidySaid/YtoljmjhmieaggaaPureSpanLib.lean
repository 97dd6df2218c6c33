/- What the functions of the package span answer, as plain facts about numbers and lists; no condition beyond the sizes named. -/
import Derived.Test.YtoljmjhmieaggaaPureBase
import Derived.Test.YtoljmjhmieaggaaX31
import Derived.Test.YtoljmjhmieaggaaX29
import Derived.Test.YtoljmjhmieaggaaX48
namespace Go.Proofs.Ytoljmjhmieaggaa.Pure
open Go.RowKit Go.Proofs.Ytoljmjhmieaggaa.X Go.Proofs.YtoljmjhmieaggaaW.PrintWords Go.Proofs.YtoljmjhmieaggaaW.PrintLast

/-- May a span be? -/
def okS (f t : Int) : Bool := decide (0 ≤ f) && (decide (f ≤ t) && decide (t ≤ 65536))
def okB (s : S39) : Bool := okS s.f0 s.f1
theorem okS_iff {f t : Int} : okS f t = true ↔ 0 ≤ f ∧ f ≤ t ∧ t ≤ 65536 := by simp [okS]
theorem okS_not {f t : Int} : okS f t = false ↔ ¬ (0 ≤ f ∧ f ≤ t ∧ t ≤ 65536) := by rw [← okS_iff]; simp

theorem check_yes {f t n : Int} (h : 0 ≤ f ∧ f ≤ t ∧ t ≤ n ∧ n ≤ 65536) : span_Check.f f t n = some 0 := by
  unfold span_Check.f
  rw [if_neg (by omega), if_neg (by omega), if_neg (by omega), if_neg (by omega), if_neg (by omega)]
theorem check_no {f t n : Int} (h : ¬ (0 ≤ f ∧ f ≤ t ∧ t ≤ n ∧ n ≤ 65536)) : span_Check.f f t n = some 1 := by
  unfold span_Check.f
  by_cases h1 : n < 0
  · rw [if_pos h1]
  · rw [if_neg h1]
    by_cases h2 : n > 65536
    · rw [if_pos h2]
    · rw [if_neg h2]
      by_cases h3 : f < 0
      · rw [if_pos h3]
      · rw [if_neg h3]
        by_cases h4 : t < f
        · rw [if_pos h4]
        · rw [if_neg h4, if_pos (by omega)]
theorem check_any (f t n : Int) : span_Check.f f t n = some (if 0 ≤ f ∧ f ≤ t ∧ t ≤ n ∧ n ≤ 65536 then 0 else 1) := by
  by_cases h : 0 ≤ f ∧ f ≤ t ∧ t ≤ n ∧ n ≤ 65536
  · rw [if_pos h, check_yes h]
  · rw [if_neg h, check_no h]

theorem rd39_lt {l : List S39} {i : Nat} (h : i < l.length) : rd_T39 l (i : Int) = l[i] := by
  unfold rd_T39
  rw [Int.toNat_natCast, List.getD_eq_getElem?_getD, List.getElem?_eq_getElem h]
  rfl

theorem right_from (l : List S39) (hl : l.length ≤ 9223372036854775807) : ∀ (d i : Nat), l.length - i = d → i ≤ l.length → Ev (fun k => span_right.l0 k l (l.length : Int) (i : Int)) ((l.drop i).all okB) := by
  intro d
  induction d with
  | zero =>
    intro i h1 h2
    refine Ev.step (fun k => by rw [span_right.l0]) (Ev.neg (by omega) ?_)
    rw [List.drop_eq_nil_of_le (by omega)]
    exact Ev.now_ _
  | succ d ih =>
    intro i h1 h2
    have hi : i < l.length := by omega
    refine Ev.step (fun k => by rw [span_right.l0]) (Ev.pos (by omega) (Ev.pos (by omega) (Ev.pos (by omega) ?_)))
    rw [rd39_lt hi, wrap_succ hi hl, List.drop_eq_getElem_cons hi, List.all_cons]
    by_cases h : okB l[i] = true
    · have h' := h
      rw [okB, okS_iff] at h'
      refine Ev.bind (Ev.eq (check_yes ⟨h'.1, h'.2.1, h'.2.2, by omega⟩)) (Ev.pos rfl ?_)
      rw [h, Bool.true_and]
      exact ih (i + 1) (by omega) (by omega)
    · rw [Bool.not_eq_true] at h
      have h' := h
      rw [okB, okS_not] at h'
      refine Ev.bind (Ev.eq (check_no (by omega))) (Ev.neg (by decide) ?_)
      rw [h, Bool.false_and]
      exact Ev.now_ _
theorem right_any (l : List S39) (hl : l.length ≤ 9223372036854775807) : Ev (fun k => span_right.f k l) (l.all okB) := by
  have := right_from l hl _ 0 rfl (by omega)
  simpa [span_right.f] using this
theorem right_one (f t : Int) : Ev (fun k => span_right.f k [⟨f, t⟩]) (okS f t) := by
  have := right_any [⟨f, t⟩] (by simp)
  simpa [okB] using this
theorem right_two (f t f' t' : Int) : Ev (fun k => span_right.f k [⟨f, t⟩, ⟨f', t'⟩]) (okS f t && okS f' t') := by
  have := right_any [⟨f, t⟩, ⟨f', t'⟩] (by simp)
  simpa [okB] using this

def lenS (f t : Int) : Int := if okS f t = true then t - f else 0
theorem len_any (f t : Int) : Ev (fun k => span_Len.f k f t) (lenS f t) := by
  unfold span_Len.f lenS
  refine Ev.bind (right_one f t) ?_
  by_cases h : okS f t = true
  · have h' := okS_iff.1 h
    rw [show (if okS f t = true then t - f else 0) = t - f from if_pos h]
    rw [wrap_id (by omega) (by omega)]
    exact Ev.pos h (Ev.now_ _)
  · rw [show (if okS f t = true then t - f else 0) = 0 from if_neg h]
    exact Ev.neg h (Ev.now_ _)

def apartS (f t f' t' : Int) : Bool := okS f t && okS f' t' && !(decide (f = f') && decide (t = t') && decide (t ≤ f)) && (decide (t ≤ f') || decide (t' ≤ f))
theorem apart_any (f t f' t' : Int) : Ev (fun k => span_Apart.f k f t f' t') (apartS f t f' t') := by
  unfold span_Apart.f apartS
  refine Ev.bind (right_two f t f' t') ?_
  by_cases h : (okS f t && okS f' t') = true
  · refine Ev.pos h ?_
    rw [h]
    rw [Bool.and_eq_true] at h
    have h' := okS_iff.1 h.1
    by_cases e : f = f' ∧ t = t'
    · refine Ev.pos (by simp [e.1, e.2]) (Ev.bind (len_any f t) ?_)
      have hlen : lenS f t = t - f := by unfold lenS; rw [if_pos h.1]
      rw [hlen]
      by_cases z : t = f
      · refine Ev.pos (by omega) (Ev.cast (Ev.now_ _) ?_)
        have : t ≤ f := by omega
        simp [e.1, e.2, z ▸ e.1 ▸ this]
      · refine Ev.neg (by omega) (Ev.neg (by omega) (Ev.cast (Ev.now_ _) ?_))
        have z1 : ¬ t ≤ f := by omega
        have z2 : ¬ t ≤ f' := by omega
        simp [z1, z2]
    · have e1 : (decide (f = f') && decide (t = t') && decide (t ≤ f)) = false := by
        by_cases a : f = f'
        · by_cases b : t = t'
          · exact absurd ⟨a, b⟩ e
          · simp [b]
        · simp [a]
      rw [e1]
      refine Ev.neg (by simpa using fun a b => e ⟨a, b⟩) ?_
      by_cases a : t ≤ f'
      · refine Ev.pos a (Ev.cast (Ev.now_ _) ?_)
        simp [a]
      · refine Ev.neg a (Ev.cast (Ev.now_ _) ?_)
        simp [a]
  · refine Ev.neg h (Ev.cast (Ev.now_ _) ?_)
    rw [Bool.not_eq_true] at h
    simp [h]

/-! The least span over some. -/
/-! The head of each statement. -/
end Go.Proofs.Ytoljmjhmieaggaa.Pure
