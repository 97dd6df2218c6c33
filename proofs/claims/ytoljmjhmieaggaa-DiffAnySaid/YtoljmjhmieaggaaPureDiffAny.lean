/- Any two texts: the edits make one of the other, and cost no more than taking away all and putting in all; with too long ones there are none, as the statement DiffAny says; every input. -/
import Derived.Test.YtoljmjhmieaggaaX4
import Derived.Test.YtoljmjhmieaggaaPureDiffFar
namespace Go.Proofs.Ytoljmjhmieaggaa.Pure
open Go.RowKit Go.Proofs.Ytoljmjhmieaggaa.X Go.Proofs.YtoljmjhmieaggaaW.PrintWords Go.Proofs.YtoljmjhmieaggaaW.PrintLast Go.Diff Go.Proofs.Ytoljmjhmieaggaa.Ed
theorem bytes_long (a b : ByteArray) (h : a.size > 16384 ∨ b.size > 16384) : Ev (fun k => diff_Bytes.f k a b) ([], false, 2) := by
  have j0 : ∀ q, q = true → Ev (fun k => diff_Bytes.j0 k a b q) ([], false, 2) := by
    rintro q rfl
    refine Ev.step (fun k => by rw [diff_Bytes.j0]) ?_
    exact Ev.pos rfl (Ev.now_ _)
  unfold diff_Bytes.f
  refine Ev.ite (fun _ => j0 _ rfl) (fun h2 => j0 _ ?_)
  rw [decide_eq_true_iff]
  omega
theorem any_ev (x y : ByteArray) (hx : x.size ≤ 20000) (hy : y.size ≤ 20000) : ∃ t : List S41 × Bool × Int, Ev (fun k => diff_Bytes.f k x y) t ∧ Ev (fun k => if (x.size : Int) > 16384 then (caulkerlaw04_DiffAny.j1 k x y t.1 t.2.1 t.2.2 true) else (caulkerlaw04_DiffAny.j1 k x y t.1 t.2.1 t.2.2 (decide ((y.size : Int) > 16384)))) true := by
  by_cases h : x.size > 16384 ∨ y.size > 16384
  · refine ⟨([], false, 2), bytes_long x y h, ?_⟩
    have j1 : ∀ q, q = true → Ev (fun k => caulkerlaw04_DiffAny.j1 k x y [] false 2 q) true := by
      rintro q rfl
      refine Ev.step (fun k => by rw [caulkerlaw04_DiffAny.j1]) ?_
      exact Ev.pos rfl (Ev.pos rfl (Ev.pos rfl (Ev.now_ _)))
    refine Ev.ite (fun _ => j1 _ rfl) (fun h2 => j1 _ ?_)
    rw [decide_eq_true_iff]
    omega
  · obtain ⟨l, ok, D, q1, q2⟩ := bytes_ev x y (by omega) (by omega)
    refine ⟨_, q1, Ev.neg (by omega) ?_⟩
    have hll := q2.len
    have ap := ref_apply_any x (l.map ofE) (by rw [List.length_map]; omega)
    rw [q2.apply (by omega) (by omega)] at ap
    have co := q2.cost_ev (by omega) (by omega)
    have hm := q2.most
    have j1 : ∀ q, q = false → Ev (fun k => caulkerlaw04_DiffAny.j1 k x y (l.map ofE) ok 0 q) true := by
      rintro q rfl
      refine Ev.step (fun k => by rw [caulkerlaw04_DiffAny.j1]) ?_
      refine Ev.neg (by simp) (Ev.bind ap (Ev.pos rfl (Ev.pos rfl (Ev.pos rfl (Ev.bind co (Ev.pos ?_ ?_))))))
      · rw [wrap_id (by omega) (by omega)]
        omega
      · refine Ev.ite (fun h1 => Ev.bind co (Ev.cast (Ev.now_ _) ?_)) (fun _ => Ev.now_ _)
        have hc := q2.cost h1
        have hf := q2.far
        rw [h1] at hf
        have hD := of_decide_eq_true hf.symm
        rw [decide_eq_true_iff]
        omega
    exact j1 _ (by rw [decide_eq_false_iff_not]; omega)
theorem DiffAny : caulkerlaw04_DiffAny.Pure := by
  intro a b m
  intros
  apply Ev.rounds
  have yes : ∀ q, q = true → Ev (fun k => caulkerlaw04_DiffAny.j0 k a b m q) true := by
    rintro q rfl
    refine Ev.step (fun k => by rw [caulkerlaw04_DiffAny.j0]) ?_
    exact Ev.pos rfl (Ev.now_ _)
  unfold caulkerlaw04_DiffAny.f
  refine Ev.bind finds_any (Ev.pos rfl (Ev.ite (fun _ => yes _ rfl) (fun h1 => Ev.ite (fun _ => yes _ rfl) (fun h2 => Ev.ite (fun _ => yes _ rfl) (fun h3 => ?_)))))
  by_cases h4 : m > 17000
  · exact yes _ (decide_eq_true h4)
  rw [decide_eq_false h4]
  obtain ⟨z, hz⟩ : ∃ z, z = strOfNums (List.replicate m.toNat 0) := ⟨_, rfl⟩
  have zs : z.size = m.toNat := by
    rw [hz]
    show (List.map _ (List.replicate m.toNat 0)).toArray.size = _
    simp
  have s1 : (a ++ z).size = a.size + z.size := ByteArray.size_append
  have s2 : (b ++ z).size = b.size + z.size := ByteArray.size_append
  have s3 : (b ++ z ++ b).size = b.size + z.size + b.size := by rw [ByteArray.size_append, ByteArray.size_append]
  obtain ⟨t, q1, q2⟩ := any_ev (a ++ z) (b ++ z ++ b) (by omega) (by omega)
  refine Ev.step (fun k => by rw [caulkerlaw04_DiffAny.j0]) ?_
  refine Ev.neg (by simp) (Ev.pos (by omega) (Ev.pos (by omega) (Ev.bind (Ev.now_ _) ?_)))
  rw [← hz]
  exact Ev.pos (by omega) (Ev.pos (by omega) (Ev.pos (by omega) (Ev.bind q1 q2)))
end Go.Proofs.Ytoljmjhmieaggaa.Pure
