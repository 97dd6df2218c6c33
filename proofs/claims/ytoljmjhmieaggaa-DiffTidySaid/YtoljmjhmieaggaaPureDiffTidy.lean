/- The edits are tidy: apart, each changes something, and tidied they cost the same, as the statement DiffTidy says; every input. -/
import Derived.Test.YtoljmjhmieaggaaX9
import Derived.Test.YtoljmjhmieaggaaPureDiffFar
import Derived.Test.YtoljmjhmieaggaaPureTidied
namespace Go.Proofs.Ytoljmjhmieaggaa.Pure
open Go.RowKit Go.Proofs.Ytoljmjhmieaggaa.X Go.Proofs.YtoljmjhmieaggaaW.PrintWords Go.Proofs.YtoljmjhmieaggaaW.PrintLast Go.Diff Go.Proofs.Ytoljmjhmieaggaa.Ed
/-- Edits that make the other text are a way to it. -/
theorem edits_reach {a b : ByteArray} : ∀ {l : List E} {i j d : Nat}, Val a.size i l → j ≤ b.size → Ed.app a.data.toList i l = b.data.toList.drop j → Diff.Reach (same a b) a.size b.size d i j → Diff.Reach (same a b) a.size b.size (d + (puts l + takes l)) a.size b.size
  | [], i, j, d, hv, hj, h, hr => by
    have la : a.data.toList.length = a.size := Array.length_toList
    have lb : b.data.toList.length = b.size := Array.length_toList
    have hi : i ≤ a.size := hv
    have hl := congrArg List.length h
    simp only [Ed.app, List.length_drop] at hl
    have := hr.alongs (a.size - i) fun t ht => ⟨by omega, by omega, by
      refine (bt_eq (by omega) (by omega)).2 ?_
      have := congrArg (fun z => z[t]?) h
      simpa only [Ed.app, List.getElem?_drop] using this⟩
    rw [show i + (a.size - i) = a.size by omega, show j + (a.size - i) = b.size by omega] at this
    simpa [puts, takes] using this
  | x :: l, i, j, d, hv, hj, h, hr => by
    have la : a.data.toList.length = a.size := Array.length_toList
    have lb : b.data.toList.length = b.size := Array.length_toList
    obtain ⟨h1, h2, h3, h4⟩ := hv
    have hl := congrArg List.length h
    simp only [Ed.app, List.length_append, List.length_take, List.length_drop] at hl
    have hk := hr.alongs (x.a - i) fun t ht => ⟨by omega, by omega, by
      refine (bt_eq (by omega) (by omega)).2 ?_
      have := congrArg (fun z => z[t]?) h
      simp only [Ed.app, List.append_assoc] at this
      rw [List.getElem?_append_left (by rw [List.length_take, List.length_drop]; omega), List.getElem?_take, if_pos ht, List.getElem?_drop, List.getElem?_drop] at this
      exact this⟩
    rw [show i + (x.a - i) = x.a by omega] at hk
    have hdel : ∀ n, Diff.Reach (same a b) a.size b.size (d + n) (x.a + n) (j + (x.a - i)) := fun n => by
      induction n with
      | zero => exact hk
      | succ n ih => exact ih.del
    have h5 := (hdel (x.b - x.a)).inss x.t.length
    rw [show x.a + (x.b - x.a) = x.b by omega] at h5
    have h6 : Ed.app a.data.toList x.b l = b.data.toList.drop (j + (x.a - i) + x.t.length) := by
      have := congrArg (List.drop ((x.a - i) + x.t.length)) h
      simp only [Ed.app] at this
      rw [List.drop_append_of_le_length (by rw [List.length_append, List.length_take, List.length_drop]; omega), List.drop_of_length_le (by rw [List.length_append, List.length_take, List.length_drop]; omega), List.nil_append, List.drop_drop] at this
      rw [this]
      congr 1
      omega
    have := edits_reach h4 (by omega) h6 h5
    simp only [puts, takes]
    rwa [show d + (x.t.length + puts l + (x.b - x.a + takes l)) = d + (x.b - x.a) + x.t.length + (puts l + takes l) by omega]
theorem tidy_facts : ∀ {l : List E} {n : Nat}, Tidy' n l → (∀ x ∈ l, x.a < x.b ∨ 0 < x.t.length) ∧ (∀ x, l.head? = some x → n < x.a) ∧ ∀ (i : Nat) (h : i + 1 < l.length), l[i].b < l[i + 1].a
  | [], _, _ => ⟨fun x h => by simp at h, fun x h => by simp at h, fun i h => by simp at h⟩
  | y :: l, n, h => by
    obtain ⟨h1, h2, h3⟩ := h
    obtain ⟨k1, k2, k3⟩ := tidy_facts h3
    refine ⟨fun x hx => ?_, fun x hx => ?_, fun i hi => ?_⟩
    · rcases List.mem_cons.1 hx with rfl | hx
      · exact h2
      · exact k1 x hx
    · simp only [List.head?_cons, Option.some.injEq] at hx
      subst hx
      exact h1
    · cases i with
      | zero =>
        cases l with
        | nil => simp at hi
        | cons z l => exact k2 z rfl
      | succ i => exact k3 i (by simpa using hi)
theorem Made.tidy' {a b : ByteArray} {l : List E} {ok : Bool} {D : Nat} (h : Made a b l ok D) : (∀ x ∈ l, x.a < x.b ∨ 0 < x.t.length) ∧ ∀ (i : Nat) (h : i + 1 < l.length), l[i].b < l[i + 1].a := by
  obtain ⟨n, ht | ⟨x, r, rfl, h1, h2⟩⟩ := h.tidy
  · exact ⟨(tidy_facts ht).1, (tidy_facts ht).2.2⟩
  · obtain ⟨k1, k2, k3⟩ := tidy_facts h2
    refine ⟨fun y hy => ?_, fun i hi => ?_⟩
    · rcases List.mem_cons.1 hy with rfl | hy
      · exact h1
      · exact k1 y hy
    · cases i with
      | zero =>
        cases r with
        | nil => simp at hi
        | cons z r => exact k2 z rfl
      | succ i => exact k3 i (by simpa using hi)
theorem tidy_loop (a : ByteArray) (l : List E) (hl : l.length ≤ 1000) (h1 : ∀ x ∈ l, x.a < x.b ∨ 0 < x.t.length) (h2 : ∀ (i : Nat) (h : i + 1 < l.length), l[i].b < l[i + 1].a)
    (fin : Ev (fun k => (edit_Tidy.f k a (l.map ofE)).bind fun bt420 => (if bt420.2 = 0 then ((edit_Cost.f k bt420.1).bind fun t424 => ((edit_Cost.f k (l.map ofE)).bind fun t425 => (some (t424 == t425)))) else (none))) true) : ∀ (d i : Nat), i + d = l.length → Ev (fun k => caulkerlaw04_DiffTidy.l0 k a (l.map ofE) (l.map ofE) ((l.map ofE).length : Int) (i : Int)) true
  | 0, i, hi => by
    have lm : (l.map ofE).length = l.length := List.length_map ..
    refine Ev.step (fun k => by rw [caulkerlaw04_DiffTidy.l0]) ?_
    exact Ev.neg (by omega) fin
  | d + 1, i, hi => by
    have lm : (l.map ofE).length = l.length := List.length_map ..
    have ih := tidy_loop a l hl h1 h2 fin d (i + 1) (by omega)
    have hlt : i < l.length := by omega
    have hx := h1 l[i] (List.getElem_mem hlt)
    have w1 : wrap64 ((i : Int) + 1) = ((i + 1 : Nat) : Int) := by rw [wrap_id (by omega) (by omega)]; omega
    rw [← w1] at ih
    have tail : Ev (fun k => if (i : Int) > 0 then (if 0 ≤ (wrap64 ((i : Int) - 1)) then (if (wrap64 ((i : Int) - 1)) < ((l.map ofE).length : Int) then (if ((rd_T41 (l.map ofE) (wrap64 ((i : Int) - 1))).f0.f1) ≥ ((ofE l[i]).f0.f0) then (none) else (caulkerlaw04_DiffTidy.l0 k a (l.map ofE) (l.map ofE) ((l.map ofE).length : Int) (wrap64 ((i : Int) + 1)))) else (none)) else (none)) else (caulkerlaw04_DiffTidy.l0 k a (l.map ofE) (l.map ofE) ((l.map ofE).length : Int) (wrap64 ((i : Int) + 1)))) true := by
      refine Ev.ite (fun h => ?_) (fun _ => ih)
      obtain ⟨p, rfl⟩ : ∃ p, i = p + 1 := ⟨i - 1, by omega⟩
      have w2 : wrap64 (((p + 1 : Nat) : Int) - 1) = (p : Int) := by rw [wrap_id (by omega) (by omega)]; omega
      rw [w2, rd41_map (by omega)]
      have := h2 p hlt
      refine Ev.pos (by omega) (Ev.pos (by omega) (Ev.neg ?_ ih))
      show ¬ ((l[p].b : Nat) : Int) ≥ ((l[p + 1].a : Nat) : Int)
      omega
    refine Ev.step (fun k => by rw [caulkerlaw04_DiffTidy.l0]) (Ev.pos (by omega) (Ev.pos (by omega) (Ev.pos (by omega) ?_)))
    rw [rd41_map hlt]
    refine Ev.ite (fun hc => Ev.neg ?_ tail) (fun _ => tail)
    intro h0
    have hz : (ofE l[i]).f1.toList.length = 0 := by rw [h0]; rfl
    have hc' : ((l[i].a : Nat) : Int) = ((l[i].b : Nat) : Int) := hc
    rw [Lib.toList_data] at hz
    have : (ofE l[i]).f1.data.toList = l[i].t := by simp [ofE]
    rw [this] at hz
    omega
theorem DiffTidy : caulkerlaw04_DiffTidy.Pure := by
  intro a b _ _
  apply Ev.rounds
  have yes : ∀ q, q = true → Ev (fun k => caulkerlaw04_DiffTidy.j0 k a b q) true := by
    rintro q rfl
    refine Ev.step (fun k => by rw [caulkerlaw04_DiffTidy.j0]) ?_
    exact Ev.pos rfl (Ev.now_ _)
  unfold caulkerlaw04_DiffTidy.f
  refine Ev.bind finds_any (Ev.pos rfl (Ev.ite (fun _ => yes _ rfl) (fun h1 => ?_)))
  by_cases h3 : (b.size : Int) > 200
  · exact yes _ (decide_eq_true h3)
  rw [decide_eq_false h3]
  obtain ⟨l, ok, D, q1, q2⟩ := bytes_ev a b (by omega) (by omega)
  have hbd := q2.dist.bounds
  have hok : ok = true := by rw [q2.far]; exact decide_eq_true (by omega)
  subst hok
  have hll := q2.len
  have hap := q2.apply (by omega) (by omega)
  have hap2 : (applyV a (l.map ofE)).2 = 0 := by rw [hap]
  obtain ⟨t1, t2, t3, t4, t5, t6, t7, t8⟩ := tidied hap2
  rw [map_toE_ofE] at t1 t2 t3 t4 t5 t6 t7 t8
  have ti := tidy_any a (l.map ofE) (by rw [List.length_map]; omega)
  unfold tidyV at ti
  rw [if_pos hap2, map_toE_ofE] at ti
  have co := q2.cost_ev (by omega) (by omega)
  have ct := cost_any t2
  rw [map_toE_ofE] at ct
  have hc := q2.cost rfl
  -- tidied they make the same text: no fewer bytes do
  have hle : D ≤ puts (tidy a.data.toList [] l) + takes (tidy a.data.toList [] l) := by
    have e1 : (applyV a ((tidy a.data.toList [] l).map ofE)).2 = 0 := by rw [t1, hap]
    have e2 := (applied e1).2.2.2
    rw [t1, hap, map_toE_ofE] at e2
    have e3 : Ed.app a.data.toList 0 (tidy a.data.toList [] l) = b.data.toList.drop 0 := by
      have := congrArg (fun z : ByteArray => z.data.toList) e2
      simpa using this.symm
    have := edits_reach t4 (Nat.zero_le _) e3 .start
    rw [Nat.zero_add] at this
    exact q2.dist.2 _ this
  have ce := edit_check_any (a.size : Int) (l.map ofE) (by rw [List.length_map]; omega)
  rw [q2.check (by omega) (by omega)] at ce
  have td := q2.tidy'
  refine Ev.step (fun k => by rw [caulkerlaw04_DiffTidy.j0]) ?_
  refine Ev.neg (by simp) (Ev.bind q1 (Ev.pos rfl (Ev.bind ce ?_)))
  refine Ev.step (fun k => by rw [caulkerlaw04_DiffTidy.j1]) ?_
  refine Ev.neg (by simp) (tidy_loop a l (by omega) td.1 td.2 ?_ l.length 0 (Nat.zero_add _))
  refine Ev.bind ti (Ev.pos rfl (Ev.bind ct (Ev.bind co (Ev.cast (Ev.now_ _) ?_))))
  rw [beq_iff_eq]
  omega
end Go.Proofs.Ytoljmjhmieaggaa.Pure
