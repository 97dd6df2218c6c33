/- What the document's Solve answers: to which nodes something comes; against the nodes found from null. Lists alone; no condition beyond those named. -/
import Derived.Test.YtefgfnhhoidbdaaGraphW12
import Derived.Test.YtefgfnhhoidbdaaX17
namespace Go.Proofs.Ytefgfnhhoidbdaa.GrW
open Go.RowKit Go.Proofs.YtefgfnhhoidbdaaW.PrintWords Go.Proofs.YtefgfnhhoidbdaaW.PrintLast Go.Proofs.Ytefgfnhhoidbdaa.X Go.Proofs.Ytefgfnhhoidbdaa.Gr
set_option linter.unusedVariables false
set_option linter.unusedSimpArgs false
/-- May something come along this edge, of nodes that have got it? -/
def opE (sf : Int → Bool) (out : List Bool) (e : S41) : Bool := (decide (e.f0 = -1) || bG out e.f0) && !sf e.f1
def stE (sf : Int → Bool) (s : List Bool × Bool) (e : S41) : List Bool × Bool := if opE sf s.1 e = true ∧ bG s.1 e.f1 = false then (s.1.set e.f1.toNat true, true) else s
def passL (sf : Int → Bool) (es : List S41) (s : List Bool × Bool) : List Bool × Bool := es.foldl (stE sf) s
theorem stE_len (sf : Int → Bool) (s : List Bool × Bool) (e : S41) : (stE sf s e).1.length = s.1.length := by
  unfold stE
  split <;> simp
theorem passL_len (sf : Int → Bool) : ∀ (es : List S41) (s : List Bool × Bool), (passL sf es s).1.length = s.1.length
  | [], s => rfl
  | e :: es, s => by
    have := passL_len sf es (stE sf s e)
    rw [stE_len] at this
    exact this
/-- How many have not got it. -/
def unB (out : List Bool) : Nat := out.countP fun b => !b
theorem unB_set {out : List Bool} {i : Nat} (hi : i < out.length) (hb : out.getD i false = false) : unB (out.set i true) + 1 = unB out := by
  unfold unB
  induction out generalizing i with
  | nil => simp at hi
  | cons x l ih =>
    cases i with
    | zero =>
      have : x = false := by simpa using hb
      subst this
      simp
    | succ i =>
      rw [List.set_cons_succ, List.countP_cons, List.countP_cons]
      have := ih (i := i) (by simpa using hi) (by simpa using hb)
      omega
/-- A pass either changes nothing, or fewer have not got it. -/
theorem passL_un (sf : Int → Bool) : ∀ (es : List S41) (s : List Bool × Bool), (∀ e, e ∈ es → 0 ≤ e.f1 ∧ e.f1 < s.1.length) → (passL sf es s = s ∧ ∀ e, e ∈ es → ¬ (opE sf s.1 e = true ∧ bG s.1 e.f1 = false)) ∨ ((passL sf es s).2 = true ∧ unB (passL sf es s).1 < unB s.1)
  | [], s, _ => .inl ⟨rfl, fun e he => by cases he⟩
  | e :: es, s, h => by
    have he := h e List.mem_cons_self
    by_cases hs : opE sf s.1 e = true ∧ bG s.1 e.f1 = false
    · right
      have e1 : stE sf s e = (s.1.set e.f1.toNat true, true) := by unfold stE; rw [if_pos hs]
      have e2 : passL sf (e :: es) s = passL sf es (s.1.set e.f1.toNat true, true) := by unfold passL; rw [List.foldl_cons, e1]
      have hu := unB_set (out := s.1) (i := e.f1.toNat) (by omega) hs.2
      rw [e2]
      rcases passL_un sf es (s.1.set e.f1.toNat true, true) (fun x hx => by have := h x (List.mem_cons_of_mem _ hx); simpa using this) with ⟨h1, _⟩ | ⟨h1, h2⟩
      · rw [h1]
        exact ⟨rfl, by show unB (s.1.set e.f1.toNat true) < unB s.1; omega⟩
      · exact ⟨h1, Nat.lt_trans h2 (by show unB (s.1.set e.f1.toNat true) < unB s.1; omega)⟩
    · have e1 : stE sf s e = s := by unfold stE; rw [if_neg hs]
      have e2 : passL sf (e :: es) s = passL sf es s := by unfold passL; rw [List.foldl_cons, e1]
      rw [e2]
      rcases passL_un sf es s (fun x hx => h x (List.mem_cons_of_mem _ hx)) with ⟨h1, h2⟩ | h1
      · refine .inl ⟨h1, fun x hx => ?_⟩
        rcases List.mem_cons.1 hx with rfl | hx
        · exact hs
        · exact h2 x hx
      · exact .inr h1
section
variable {n m : Nat} {F T : Nat → Int} {sf : Int → Bool} {R : List Int} {dp : Int → Nat}
/-- What has got it has got it rightly. -/
def Sd (n : Nat) (R : List Int) (out : List Bool) : Prop := ∀ v : Int, 0 ≤ v → bG out v = true → V n R v
theorem stE_sd {es : List S29} (hf : Fin_ n es.length (Fm es) (Tm es) sf (-1) R dp) {s : List Bool × Bool} {k : Nat} (hk : k < es.length) (hT : 0 ≤ Tm es k ∧ Tm es k < n) (hF : -1 ≤ Fm es k) (hl : s.1.length = n) (h : Sd n R s.1) : Sd n R (stE sf s (to41 (es.getD k z29))).1 := by
  unfold stE
  by_cases hs : opE sf s.1 (to41 (es.getD k z29)) = true ∧ bG s.1 (to41 (es.getD k z29)).f1 = false
  · rw [if_pos hs]
    have ho := hs.1
    unfold opE at ho
    rw [Bool.and_eq_true, Bool.or_eq_true, decide_eq_true_eq] at ho
    have hok : Ok es.length (Tm es) sf (-1) k := ⟨hk, by omega, by have := ho.2; simpa [Tm, to41] using this⟩
    have hVF : V n R (Fm es k) := by
      rcases ho.1 with h1 | h1
      · exact .inl h1
      · by_cases h0 : Fm es k = -1
        · exact .inl h0
        · exact h _ (by omega) h1
    have hVT := (hf.shut_ k hok hVF).1
    intro v hv hb
    by_cases e : v = Tm es k
    · rw [e]; exact hVT
    · refine h v hv ?_
      have hne : (to41 (es.getD k z29)).f1.toNat ≠ v.toNat := by
        show (Tm es k).toNat ≠ v.toNat
        omega
      unfold bG at hb ⊢
      dsimp only at hb
      rw [List.getD_eq_getElem?_getD, List.getElem?_set_ne hne, ← List.getD_eq_getElem?_getD] at hb
      exact hb
  · rw [if_neg hs]
    exact h
/-- What is sound and closed is what has been found. -/
theorem closed_eq {es : List S29} (hf : Fin_ n es.length (Fm es) (Tm es) sf (-1) R dp) {out : List Bool} (hl : out.length = n) (hs : Sd n R out) (hc : ∀ k, k < es.length → ¬ (opE sf out (to41 (es.getD k z29)) = true ∧ bG out (to41 (es.getD k z29)).f1 = false)) : out = comesL R := by
  have key : ∀ d (i : Nat), i < n → dp i = d → 0 ≤ R.getD i (-1) → bG out (i : Int) = true := by
    intro d
    induction d using Nat.strongRecOn with
    | ind d ih =>
      intro i hi hd hR
      obtain ⟨k, _, h2, h3, h4, h5⟩ := hf.tree i hi hR
      have hop : opE sf out (to41 (es.getD k z29)) = true := by
        unfold opE
        rw [Bool.and_eq_true, Bool.or_eq_true, decide_eq_true_eq]
        refine ⟨?_, by have := h2.2.2; unfold Tm at this; simpa [to41] using this⟩
        rcases h4 with h4 | ⟨h4, h6, h7⟩
        · exact .inl h4
        · right
          obtain ⟨j, hj⟩ : ∃ j : Nat, Fm es k = (j : Int) := ⟨(Fm es k).toNat, by omega⟩
          have := ih (dp (Fm es k)) (by omega) j (by omega) (by rw [hj]) (by rw [hj, Int.toNat_natCast] at h7; exact h7)
          show bG out (Fm es k) = true
          rw [hj]
          exact this
      have h6 := hc k h2.1
      cases hb : bG out (to41 (es.getD k z29)).f1 with
      | true =>
        rw [← h3]
        exact hb
      | false => exact absurd ⟨hop, hb⟩ h6
  refine List.ext_getElem (by unfold comesL; rw [List.length_map, hl, hf.len]) (fun i h1 h2 => ?_)
  unfold comesL at h2 ⊢
  rw [List.length_map] at h2
  rw [List.getElem_map]
  have g1 : bG out (i : Int) = out[i] := by unfold bG; rw [Int.toNat_natCast, List.getD_eq_getElem?_getD, List.getElem?_eq_getElem h1, Option.getD_some]
  have g2 : R.getD i (-1) = R[i] := by rw [List.getD_eq_getElem?_getD, List.getElem?_eq_getElem h2, Option.getD_some]
  rw [← g1, ← g2]
  by_cases h : 0 ≤ R.getD i (-1)
  · rw [decide_eq_true h]
    exact key _ i (by omega) rfl h
  · rw [decide_eq_false h, Bool.eq_false_iff]
    intro hb
    rcases hs (i : Int) (by omega) hb with h3 | ⟨_, _, h3⟩
    · omega
    · rw [Int.toNat_natCast] at h3
      exact h h3
end
end Go.Proofs.Ytefgfnhhoidbdaa.GrW
