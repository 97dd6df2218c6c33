/- Edits that make one text of another one are made so, and cost as few bytes as a table of all pairs tells, as the statement DiffMakes says; every input. -/
import Derived.Test.YtoljmjhmieaggaaX3
import Derived.Test.YtoljmjhmieaggaaPureDiffFar
import Derived.Test.YtoljmjhmieaggaaPureDiffTable
namespace Go.Proofs.Ytoljmjhmieaggaa.Pure
open Go.RowKit Go.Proofs.Ytoljmjhmieaggaa.X Go.Proofs.YtoljmjhmieaggaaW.PrintWords Go.Proofs.YtoljmjhmieaggaaW.PrintLast Go.Diff Go.Proofs.Ytoljmjhmieaggaa.Ed
theorem Made.none_iff {a b : ByteArray} {l : List E} {ok : Bool} {D : Nat} (h : Made a b l ok D) (hok : ok = true) : l = [] ↔ D = 0 := by
  have hc := h.cost hok
  constructor
  · intro e
    subst e
    simpa [puts, takes] using hc.symm
  · intro h0
    obtain ⟨n, ht⟩ := h.tidy
    cases l with
    | nil => rfl
    | cons x r =>
      exfalso
      have hx : x.a < x.b ∨ 0 < x.t.length := by
        rcases ht with ht | ⟨x', r', e, h1, _⟩
        · exact ht.2.1
        · injection e with e1 _
          subst e1
          exact h1
      simp only [puts, takes] at hc
      omega
theorem DiffMakes : caulkerlaw04_DiffMakes.Pure := by
  intro a b _ _
  apply Ev.rounds
  have yes : ∀ q, q = true → Ev (fun k => caulkerlaw04_DiffMakes.j0 k a b q) true := by
    rintro q rfl
    refine Ev.step (fun k => by rw [caulkerlaw04_DiffMakes.j0]) ?_
    exact Ev.pos rfl (Ev.now_ _)
  unfold caulkerlaw04_DiffMakes.f
  refine Ev.bind finds_any (Ev.pos rfl (Ev.ite (fun _ => yes _ rfl) (fun h1 => Ev.ite (fun _ => yes _ rfl) (fun h2 => ?_))))
  rw [wrap_id (by omega) (by omega)]
  by_cases h3 : (a.size : Int) + (b.size : Int) > 512
  · exact yes _ (decide_eq_true h3)
  rw [decide_eq_false h3]
  obtain ⟨l, ok, D, q1, q2⟩ := bytes_ev a b (by omega) (by omega)
  have hbd := q2.dist.bounds
  have hok : ok = true := by rw [q2.far]; exact decide_eq_true (by omega)
  subst hok
  have hll := q2.len
  have ap := ref_apply_any a (l.map ofE) (by rw [List.length_map]; omega)
  rw [q2.apply (by omega) (by omega)] at ap
  have co := q2.cost_ev (by omega) (by omega)
  rw [q2.cost rfl] at co
  have fa := far_ev a b (by omega) (by omega) q2.dist
  rw [if_pos (by omega)] at fa
  refine Ev.step (fun k => by rw [caulkerlaw04_DiffMakes.j0]) ?_
  refine Ev.neg (by simp) (Ev.bind q1 (Ev.bind ap (Ev.bind (refFar_ev a b (by omega) (by omega) q2.dist) (Ev.bind fa (Ev.pos rfl (Ev.pos rfl (Ev.pos rfl (Ev.pos rfl (Ev.bind co (Ev.pos rfl (Ev.pos rfl (Ev.pos rfl (Ev.cast (Ev.now_ _) ?_)))))))))))))
  have h4 := (q2.none_iff rfl).trans (dist_zero q2.dist)
  show ((((l.map ofE).length : Int) == 0) == (a.toList == b.toList)) = true
  rw [List.length_map]
  by_cases h : a = b
  · rw [h4.2 h, h]
    simp
  · have hn : l ≠ [] := fun e => h (h4.1 e)
    have e1 : ((l.length : Int) == 0) = false := by
      rw [beq_eq_false_iff_ne]
      have := List.length_pos_iff.mpr hn
      omega
    have e2 : (a.toList == b.toList) = false := by rw [beq_eq_false_iff_ne]; exact fun hh => h (toList_iff.1 hh)
    rw [e1, e2]
    rfl
end Go.Proofs.Ytoljmjhmieaggaa.Pure
