/- The document's Solve, round by round. -/
import Derived.Test.YtefgfnhhoidbdaaRefGraph
namespace Go.Proofs.Ytefgfnhhoidbdaa.GrW
open Go.RowKit Go.Proofs.YtefgfnhhoidbdaaW.PrintWords Go.Proofs.YtefgfnhhoidbdaaW.PrintLast Go.Proofs.Ytefgfnhhoidbdaa.X Go.Proofs.Ytefgfnhhoidbdaa.Gr
set_option linter.unusedVariables false
set_option linter.unusedSimpArgs false
/-- What follows behind the look through the nodes that are shut. -/
def aftE (es : List S41) (sh : List Int) (out : List Bool) (again : Bool) (i : Int) (b : Bool) (f1 : Int) (k : Nat) : Option (List Bool) :=
  if b = true then (if 0 ≤ f1 then (if f1 < (out.length : Int) then (if rdOf false out f1 = true then (caulkerref21_Solve.l1 k es sh out again (wrap64 (i + 1))) else (caulkerref21_Solve.l1 k es sh (out.set (f1 : Int).toNat true) true (wrap64 (i + 1)))) else (none)) else (none)) else (caulkerref21_Solve.l1 k es sh out again (wrap64 (i + 1)))
theorem l2_ev (es : List S41) (sh : List Int) (out : List Bool) (again : Bool) (i f0 f1 f2 f3 : Int) (r : List Bool) (hl : sh.length ≤ 100000) : ∀ (d j : Nat) (b : Bool), sh.length - j = d → j ≤ sh.length → Ev (aftE es sh out again i (b && !(sh.drop j).contains f1) f1) r → Ev (fun k => caulkerref21_Solve.l2 k es sh out again i b (j : Int) f0 f1 f2 f3) r := by
  intro d
  induction d with
  | zero =>
    intro j b hd hj h
    have : j = sh.length := by omega
    subst this
    rw [List.drop_length] at h
    simp only [List.contains_nil, Bool.not_false, Bool.and_true] at h
    unfold aftE at h
    exact Ev.step (fun k => by rw [caulkerref21_Solve.l2]) (Ev.neg (by omega) h)
  | succ d ih =>
    intro j b hd hj h
    have hlt : j < sh.length := by omega
    have hrd : rd sh (j : Int) = sh[j] := by
      unfold rd
      rw [Int.toNat_natCast, List.getD_eq_getElem?_getD, List.getElem?_eq_getElem hlt, Option.getD_some]
    rw [List.drop_eq_getElem_cons hlt, List.contains_cons] at h
    refine Ev.step (fun k => by rw [caulkerref21_Solve.l2]) (Ev.pos (by omega) (Ev.pos (by omega) ?_))
    rw [hrd, wrap_id (i := (j : Int) + 1) (by omega) (by omega)]
    refine Ev.ite (fun he => ?_) (fun he => ?_)
    · have h' : Ev (aftE es sh out again i (false && !(sh.drop (j + 1)).contains f1) f1) r := by
        rw [he, beq_self_eq_true, Bool.true_or, Bool.not_true, Bool.and_false] at h
        rw [Bool.false_and]
        exact h
      exact ih (j + 1) false (by omega) (by omega) h'
    · have h' : Ev (aftE es sh out again i (b && !(sh.drop (j + 1)).contains f1) f1) r := by
        have hne : (f1 == sh[j]) = false := beq_eq_false_iff_ne.2 (Ne.symm he)
        rw [hne, Bool.false_or] at h
        exact h
      exact ih (j + 1) b (by omega) (by omega) h'
theorem l1_ev (es : List S41) (sh : List Int) (n : Nat) (r : List Bool) (hl : sh.length ≤ 100000) (hes : es.length ≤ 100000) (hv : ∀ e, e ∈ es → -1 ≤ e.f0 ∧ e.f0 < n ∧ 0 ≤ e.f1 ∧ e.f1 < n) : ∀ (d i : Nat) (out : List Bool) (again : Bool), es.length - i = d → i ≤ es.length → out.length = n → Ev (fun k => caulkerref21_Solve.l0 k es sh (passL (shF sh) (es.drop i) (out, again)).1 (passL (shF sh) (es.drop i) (out, again)).2) r → Ev (fun k => caulkerref21_Solve.l1 k es sh out again (i : Int)) r := by
  intro d
  induction d with
  | zero =>
    intro i out again hd hi ho h
    have : i = es.length := by omega
    subst this
    rw [List.drop_length] at h
    have h : Ev (fun k => caulkerref21_Solve.l0 k es sh out again) r := h
    exact Ev.step (fun k => by rw [caulkerref21_Solve.l1]) (Ev.neg (by omega) h)
  | succ d ih =>
    intro i out again hd hi ho h
    have hlt : i < es.length := by omega
    have hrd : rd_T41 es (i : Int) = es[i] := by
      show es.getD (i : Int).toNat z41 = _
      rw [Int.toNat_natCast, List.getD_eq_getElem?_getD, List.getElem?_eq_getElem hlt, Option.getD_some]
    have hve := hv es[i] (List.getElem_mem hlt)
    rw [List.drop_eq_getElem_cons hlt] at h
    have hp : passL (shF sh) (es[i] :: es.drop (i + 1)) (out, again) = passL (shF sh) (es.drop (i + 1)) (stE (shF sh) (out, again) es[i]) := rfl
    rw [hp] at h
    refine Ev.step (fun k => by rw [caulkerref21_Solve.l1]) (Ev.pos (by omega) (Ev.pos (by omega) ?_))
    rw [hrd]
    generalize es[i] = e at *
    have hop : opE (shF sh) out e = ((decide (e.f0 = -1) || bG out e.f0) && !(sh.drop 0).contains e.f1) := rfl
    have fin : Ev (aftE es sh out again (i : Int) (opE (shF sh) out e) e.f1) r := by
      unfold aftE
      rw [wrap_id (by omega) (by omega)]
      by_cases hs : opE (shF sh) out e = true
      · refine Ev.pos hs (Ev.pos hve.2.2.1 (Ev.pos (by rw [ho]; exact hve.2.2.2) ?_))
        refine Ev.ite (fun hb => ?_) (fun hb => ?_)
        · have hst : stE (shF sh) (out, again) e = (out, again) := by
            unfold stE
            rw [if_neg (fun hh => by have := hh.2; rw [show bG out e.f1 = true from hb] at this; cases this)]
          rw [hst] at h
          exact ih (i + 1) out again (by omega) (by omega) ho h
        · have hst : stE (shF sh) (out, again) e = (out.set e.f1.toNat true, true) := by
            unfold stE
            rw [if_pos ⟨hs, by have : ¬ bG out e.f1 = true := hb; simpa using this⟩]
          rw [hst] at h
          exact ih (i + 1) _ true (by omega) (by omega) (by rw [List.length_set]; exact ho) h
      · have hst : stE (shF sh) (out, again) e = (out, again) := by
          unfold stE
          rw [if_neg (fun hh => hs hh.1)]
        rw [hst] at h
        exact Ev.neg hs (ih (i + 1) out again (by omega) (by omega) ho h)
    rw [hop] at fin
    refine Ev.ite (fun h0 => ?_) (fun h0 => Ev.pos (by omega) (Ev.pos (by rw [ho]; omega) ?_))
    · rw [decide_eq_true h0, Bool.true_or] at fin
      exact Ev.step (fun k => by rw [caulkerref21_Solve.j2]; rfl) (l2_ev es sh out again (i : Int) e.f0 e.f1 e.f2 e.f3 r hl _ 0 true rfl (Nat.zero_le _) fin)
    · rw [decide_eq_false h0, Bool.false_or] at fin
      exact Ev.step (fun k => by rw [caulkerref21_Solve.j2]; rfl) (l2_ev es sh out again (i : Int) e.f0 e.f1 e.f2 e.f3 r hl _ 0 _ rfl (Nat.zero_le _) fin)
theorem passL_sd {n : Nat} {es : List S29} {sf : Int → Bool} {R : List Int} {dp : Int → Nat} (hf : Fin_ n es.length (Fm es) (Tm es) sf (-1) R dp) (hv : ∀ k, k < es.length → -1 ≤ Fm es k ∧ Fm es k < n ∧ 0 ≤ Tm es k ∧ Tm es k < n) : ∀ (l : List S41) (s : List Bool × Bool), (∀ e, e ∈ l → ∃ k, k < es.length ∧ e = to41 (es.getD k z29)) → s.1.length = n → Sd n R s.1 → Sd n R (passL sf l s).1
  | [], s, _, _, h => h
  | e :: l, s, hl, hn, h => by
    obtain ⟨k, hk, rfl⟩ := hl e List.mem_cons_self
    have h1 := stE_sd hf hk (hv k hk).2.2 (hv k hk).1 hn h
    exact passL_sd hf hv l (stE sf s (to41 (es.getD k z29))) (fun e he => hl e (List.mem_cons_of_mem _ he)) (by rw [stE_len]; exact hn) h1
theorem l0_ev {n : Nat} {es : List S29} {sh : List Int} {R : List Int} {dp : Int → Nat} (hf : Fin_ n es.length (Fm es) (Tm es) (shF sh) (-1) R dp) (hv : ∀ k, k < es.length → -1 ≤ Fm es k ∧ Fm es k < n ∧ 0 ≤ Tm es k ∧ Tm es k < n) (hl : sh.length ≤ 100000) (hes : es.length ≤ 100000) : ∀ (u : Nat) (out : List Bool), unB out ≤ u → out.length = n → Sd n R out → Ev (fun k => caulkerref21_Solve.l0 k (es.map to41) sh out true) (comesL R) := by
  have hmem : ∀ e, e ∈ es.map to41 → ∃ k, k < es.length ∧ e = to41 (es.getD k z29) := by
    intro e he
    obtain ⟨x, hx, rfl⟩ := List.mem_map.1 he
    obtain ⟨k, hk, rfl⟩ := List.getElem_of_mem hx
    exact ⟨k, hk, by rw [List.getD_eq_getElem?_getD, List.getElem?_eq_getElem hk, Option.getD_some]⟩
  have hval : ∀ e, e ∈ es.map to41 → -1 ≤ e.f0 ∧ e.f0 < n ∧ 0 ≤ e.f1 ∧ e.f1 < n := by
    intro e he
    obtain ⟨k, hk, rfl⟩ := hmem e he
    exact hv k hk
  intro u
  induction u using Nat.strongRecOn with
  | ind u ih =>
    intro out hu ho hs
    refine Ev.step (fun k => by rw [caulkerref21_Solve.l0]) (Ev.pos rfl ?_)
    refine l1_ev (es.map to41) sh n _ hl (by rw [List.length_map]; exact hes) hval _ 0 out false rfl (Nat.zero_le _) ho ?_
    rw [List.drop_zero]
    have hsd := passL_sd hf hv (es.map to41) (out, false) hmem ho hs
    have hlen := (passL_len (shF sh) (es.map to41) (out, false)).trans ho
    rcases passL_un (shF sh) (es.map to41) (out, false) (fun e he => by have := hval e he; show 0 ≤ e.f1 ∧ e.f1 < (out.length : Int); omega) with ⟨h1, h2⟩ | ⟨h1, h2⟩
    · rw [h1]
      have hc := closed_eq hf ho hs (fun k hk => h2 (to41 (es.getD k z29)) (List.mem_map.2 ⟨_, by rw [List.getD_eq_getElem?_getD, List.getElem?_eq_getElem hk, Option.getD_some]; exact List.getElem_mem hk, rfl⟩))
      exact Ev.step (fun k => by rw [caulkerref21_Solve.l0]) (Ev.neg (by simp) (Ev.eq (by rw [← hc])))
    · rw [h1]
      exact ih _ (Nat.lt_of_lt_of_le h2 hu) _ (Nat.le_refl _) hlen hsd
/-- The document's Solve answers what the walk finds. -/
theorem ref_solve {n : Nat} {es : List S29} {sh : List Int} {R : List Int} {dp : Int → Nat} (hf : Fin_ n es.length (Fm es) (Tm es) (shF sh) (-1) R dp) (hv : ∀ k, k < es.length → -1 ≤ Fm es k ∧ Fm es k < n ∧ 0 ≤ Tm es k ∧ Tm es k < n) (hl : sh.length ≤ 100000) (hes : es.length ≤ 100000) (hn : n ≤ 100000) : ∃ k, caulkerref21_Solve.f k (n : Int) (es.map to41) sh = some (comesL R) := by
  have h := l0_ev hf hv hl hes n (List.replicate n false) (by unfold unB; rw [List.countP_replicate]; simp) (by simp) (fun v _ hb => by unfold bG at hb; rw [List.getD_eq_getElem?_getD, List.getElem?_replicate] at hb; split at hb <;> simp at hb)
  obtain ⟨k, hk⟩ := Ev.rounds h
  refine ⟨k, ?_⟩
  unfold caulkerref21_Solve.f
  rw [if_pos (by omega), if_pos (by omega), Int.toNat_natCast]
  exact hk
end Go.Proofs.Ytefgfnhhoidbdaa.GrW
