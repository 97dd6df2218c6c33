/- Tidy edits do the same, cost no more, are apart, change something each, and keep none of their ends; tidied once more nothing changes: as the statement EditTidies says; every input. -/
import Derived.Test.YtoljmjhmieaggaaPureTidyLib
namespace Go.Proofs.Ytoljmjhmieaggaa.Pure
open Go.RowKit Go.Proofs.Ytoljmjhmieaggaa.X Go.Proofs.YtoljmjhmieaggaaW.PrintWords Go.Proofs.YtoljmjhmieaggaaW.PrintLast Go.Proofs.Ytoljmjhmieaggaa.Ed
set_option linter.unusedVariables false
set_option linter.unusedSimpArgs false

/-- What is applied of tidy edits. -/
theorem tidied {s : ByteArray} {l : List S41} (h : (applyV s l).2 = 0) : applyV s ((tidy s.data.toList [] (l.map toE)).map ofE) = applyV s l ∧ Pass s.size ((tidy s.data.toList [] (l.map toE)).map ofE) ∧ Tid s.data.toList (tidy s.data.toList [] (l.map toE)) ∧ Val s.size 0 (tidy s.data.toList [] (l.map toE)) ∧
    (tidy s.data.toList [] (l.map toE)).length ≤ l.length ∧ puts (tidy s.data.toList [] (l.map toE)) ≤ puts (l.map toE) ∧ takes (tidy s.data.toList [] (l.map toE)) ≤ takes (l.map toE) ∧ ∀ x ∈ tidy s.data.toList [] (l.map toE), x.t.length ≤ 65536 := by
  obtain ⟨hs, hP, hgr, ha⟩ := applied h
  have esz : s.data.toList.length = s.size := (ba_size s).symm
  have hv : Val s.data.toList.length 0 (l.map toE) := by rw [esz]; exact hP.val
  obtain ⟨k1, k2, k3, k4, k5, k6⟩ := tidy_kept (s := s.data.toList) (l := l.map toE) (out := []) (by simpa using hv) (Tid.nil _)
  rw [List.nil_append] at k2
  rw [List.length_nil, List.length_map] at k4
  simp only [puts, takes, Nat.zero_add] at k4 k5 k6
  generalize tidy s.data.toList [] (l.map toE) = T at *
  have hgi := growI_eq hP.ok
  have al := app_length hv
  have aT := app_length k1
  rw [k2] at aT
  have tl := takes_val hv
  have ht : ∀ x ∈ T, x.t.length ≤ 65536 := fun x hx => by
    have := puts_mem hx
    omega
  have hV : Val s.size 0 T := by rw [← esz]; exact k1
  have hll := hP.len
  have hch : chkV (s.size : Int) (T.map ofE) = 0 := chkV_of_val hs (by omega) hV ht
  have hP2 := pass_of hch
  have hgi2 := growI_eq hP2.ok
  rw [map_toE_ofE] at hgi2
  refine ⟨?_, hP2, k3, hV, by omega, k5, k6, ht⟩
  have e2 : applyV s l = (⟨(app s.data.toList 0 (l.map toE)).toArray⟩, 0) := Prod.ext ha h
  rw [e2]
  unfold applyV
  rw [if_neg (by omega), if_pos hch, if_neg (by omega), map_toE_ofE, k2]
end Go.Proofs.Ytoljmjhmieaggaa.Pure
