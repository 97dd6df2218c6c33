/- Without an edge; the shortest way: lists alone. -/
import Derived.Test.YtefgfnhhoidbdaaGraphLeastP
import Derived.Test.YtefgfnhhoidbdaaGraphW7
namespace Go.Proofs.Ytefgfnhhoidbdaa.GrW
open Go.RowKit Go.Proofs.YtefgfnhhoidbdaaW.PrintWords Go.Proofs.YtefgfnhhoidbdaaW.PrintLast Go.Proofs.Ytefgfnhhoidbdaa.X Go.Proofs.Ytefgfnhhoidbdaa.Gr
set_option linter.unusedVariables false
set_option linter.unusedSimpArgs false
theorem fin_sub {n m m' : Nat} {F T F' T' : Nat → Int} {sf sf' : Int → Bool} {sk sk' : Int} {R R' : List Int} {dp dp' : Int → Nat} (h : Fin_ n m F T sf sk R dp) (h' : Fin_ n m' F' T' sf' sk' R' dp') (hs : ∀ k, Ok m T sf sk k → ∃ k', Ok m' T' sf' sk' k' ∧ F' k' = F k ∧ T' k' = T k) : ∀ (d : Nat) (v : Int), dp v = d → V n R v → V n R' v := by
  intro d
  induction d using Nat.strongRecOn with
  | ind d ih =>
    intro v hd hv
    rcases hv with rfl | ⟨h0, h1, h2⟩
    · exact .inl rfl
    · obtain ⟨i, rfl⟩ : ∃ i : Nat, v = (i : Int) := ⟨v.toNat, by omega⟩
      rw [Int.toNat_natCast] at h2
      obtain ⟨k, _, hk, hT, hF, hdp⟩ := h.tree i (by omega) h2
      obtain ⟨k', hk', e1, e2⟩ := hs k hk
      have h3 := ih (dp (F k)) (by omega) (F k) rfl hF
      rw [← e1] at h3
      have h4 := (h'.shut_ k' hk' h3).1
      rw [e2, hT] at h4
      exact h4
theorem bG_get {l : List Bool} {i : Nat} (h : i < l.length) : bG l (i : Int) = l[i] := by
  unfold bG
  rw [Int.toNat_natCast, List.getD_eq_getElem?_getD, List.getElem?_eq_getElem h, Option.getD_some]
theorem comes_ext {n : Nat} {R R' : List Int} (hl : R.length = n) (hl' : R'.length = n) (h : ∀ v, V n R v ↔ V n R' v) : comesL R = comesL R' := by
  apply List.ext_getElem
  · simp [comesL, hl, hl']
  · intro i h1 h2
    have hi : i < n := by simpa [comesL, hl] using h1
    have h3 := h (i : Int)
    rw [V_comes hl (by omega) (by omega), V_comes hl' (by omega) (by omega), bG_get h1, bG_get h2] at h3
    exact Bool.eq_iff_iff.2 h3
def restE (es : List S29) (e : Int) : List S29 := if 0 ≤ e ∧ e < es.length then es.take e.toNat ++ es.drop (e.toNat + 1) else es
theorem rest_some {es : List S29} {e : Int} {k : Nat} (hk : k < es.length) (hne : (k : Int) ≠ e) : ∃ k', k' < (restE es e).length ∧ (restE es e).getD k' z29 = es.getD k z29 := by
  unfold restE
  by_cases h : 0 ≤ e ∧ e < es.length
  · rw [if_pos h]
    obtain ⟨m, rfl⟩ : ∃ m : Nat, e = (m : Int) := ⟨e.toNat, by omega⟩
    rw [Int.toNat_natCast]
    have hl : (es.take m).length = m := by rw [List.length_take]; omega
    by_cases hlt : k < m
    · refine ⟨k, by rw [List.length_append, hl]; omega, ?_⟩
      rw [List.getD_eq_getElem?_getD, List.getElem?_append_left (by omega), List.getElem?_take_of_lt hlt, ← List.getD_eq_getElem?_getD]
    · refine ⟨k - 1, by rw [List.length_append, hl, List.length_drop]; omega, ?_⟩
      rw [List.getD_eq_getElem?_getD, List.getElem?_append_right (by omega), hl, List.getElem?_drop, show m + 1 + (k - 1 - m) = k by omega, ← List.getD_eq_getElem?_getD]
  · rw [if_neg h]
    exact ⟨k, hk, rfl⟩
theorem rest_back {es : List S29} {e : Int} {k' : Nat} (hk : k' < (restE es e).length) : ∃ k, k < es.length ∧ (k : Int) ≠ e ∧ (restE es e).getD k' z29 = es.getD k z29 := by
  unfold restE at hk ⊢
  by_cases h : 0 ≤ e ∧ e < es.length
  · rw [if_pos h] at hk ⊢
    obtain ⟨m, rfl⟩ : ∃ m : Nat, e = (m : Int) := ⟨e.toNat, by omega⟩
    rw [Int.toNat_natCast] at hk ⊢
    have hl : (es.take m).length = m := by rw [List.length_take]; omega
    rw [List.length_append, hl, List.length_drop] at hk
    by_cases hlt : k' < m
    · refine ⟨k', by omega, by omega, ?_⟩
      rw [List.getD_eq_getElem?_getD, List.getElem?_append_left (by omega), List.getElem?_take_of_lt hlt, ← List.getD_eq_getElem?_getD]
    · refine ⟨k' + 1, by omega, by omega, ?_⟩
      rw [List.getD_eq_getElem?_getD, List.getElem?_append_right (by omega), hl, List.getElem?_drop, show m + 1 + (k' - m) = k' + 1 by omega, ← List.getD_eq_getElem?_getD]
  · rw [if_neg h] at hk ⊢
    exact ⟨k', hk, by omega, rfl⟩
theorem rest_len {es : List S29} {e : Int} : (restE es e).length ≤ es.length := by
  unfold restE
  split
  · rw [List.length_append, List.length_take, List.length_drop]; omega
  · exact Nat.le_refl _
theorem rest_val {n : Nat} {es : List S29} (hv : ∀ k, k < es.length → -1 ≤ Fm es k ∧ Fm es k < n ∧ 0 ≤ Tm es k ∧ Tm es k < n) (e : Int) : ∀ k, k < (restE es e).length → -1 ≤ Fm (restE es e) k ∧ Fm (restE es e) k < n ∧ 0 ≤ Tm (restE es e) k ∧ Tm (restE es e) k < n := by
  intro k' hk'
  obtain ⟨k, hk, _, he⟩ := rest_back hk'
  have := hv k hk
  unfold Fm Tm at this ⊢
  rw [he]
  exact this
/-- Without an edge: as if it had never been. -/
theorem without_rest {n : Nat} {es : List S29} (hv : ∀ k, k < es.length → -1 ≤ Fm es k ∧ Fm es k < n ∧ 0 ≤ Tm es k ∧ Tm es k < n) (e : Int) : comesL (wL n es (fun _ => false) e) = comesL (wL n (restE es e) (fun _ => false) (-1)) := by
  obtain ⟨dp, hf⟩ := walkL_fin (n := n) (F := Fm es) (shut := fun _ => false) (skip := e) (fun k hk => (hv k hk).2.2)
  obtain ⟨dp', hf'⟩ := walkL_fin (n := n) (F := Fm (restE es e)) (shut := fun _ => false) (skip := -1) (fun k hk => (rest_val hv e k hk).2.2)
  refine comes_ext hf.len hf'.len (fun v => ⟨fun h => fin_sub hf hf' ?_ _ v rfl h, fun h => fin_sub hf' hf ?_ _ v rfl h⟩)
  · intro k hk
    obtain ⟨k', h1, h2⟩ := rest_some hk.1 hk.2.1
    exact ⟨k', ⟨h1, by omega, rfl⟩, by unfold Fm; rw [h2], by unfold Tm; rw [h2]⟩
  · intro k' hk'
    obtain ⟨k, h1, h2, h3⟩ := rest_back hk'.1
    exact ⟨k, ⟨h1, h2, rfl⟩, by unfold Fm; rw [h3], by unfold Tm; rw [h3]⟩
/-- And no more nodes. -/
theorem without_less {n : Nat} {es : List S29} (hv : ∀ k, k < es.length → -1 ≤ Fm es k ∧ Fm es k < n ∧ 0 ≤ Tm es k ∧ Tm es k < n) (e : Int) {i : Nat} (hi : i < n) (h : bG (comesL (wL n es (fun _ => false) e)) (i : Int) = true) : bG (comesL (wL n es (fun _ => false) (-1))) (i : Int) = true := by
  obtain ⟨dp, hf⟩ := walkL_fin (n := n) (F := Fm es) (shut := fun _ => false) (skip := e) (fun k hk => (hv k hk).2.2)
  obtain ⟨dp', hf'⟩ := walkL_fin (n := n) (F := Fm es) (shut := fun _ => false) (skip := -1) (fun k hk => (hv k hk).2.2)
  refine (V_comes hf'.len (by omega) (by omega)).1 (fin_sub hf hf' ?_ _ _ rfl ((V_comes hf.len (by omega) (by omega)).2 h))
  intro k hk
  exact ⟨k, ⟨hk.1, by omega, rfl⟩, rfl, rfl⟩
section
variable {n : Nat} {es : List S29} {R : List Int} {dp : Int → Nat}
/-- What no longer gets it had the edge on its way. -/
theorem path_edge {e : Int} {R' : List Int} {dp' : Int → Nat} (h : Fin_ n es.length (Fm es) (Tm es) (fun _ => false) (-1) R dp) (h' : Fin_ n es.length (Fm es) (Tm es) (fun _ => false) e R' dp') : ∀ (d f i : Nat), i < n → dp i = d → d ≤ f → 0 ≤ R.getD i (-1) → (∃ k, k < es.length ∧ (k : Int) = e ∧ es.getD k z29 ∈ pathR R es f i) ∨ V n R' i := by
  intro d
  induction d using Nat.strongRecOn with
  | ind d ih =>
    intro f i hi hd hf hR
    obtain ⟨k, h1, h2, h3, h4, h5⟩ := h.tree i hi hR
    obtain ⟨f, rfl⟩ : ∃ f', f = f' + 1 := ⟨f - 1, by omega⟩
    rw [pathR_go (v := (i : Int)) (k := k) (by omega) (by rw [Int.toNat_natCast]; exact h1)]
    by_cases hk : (k : Int) = e
    · exact .inl ⟨k, h2.1, hk, List.mem_cons_self⟩
    · have h6 : (∃ k, k < es.length ∧ (k : Int) = e ∧ es.getD k z29 ∈ pathR R es f (Fm es k)) ∨ True := .inr trivial
      have h7 : (∃ j, j < es.length ∧ (j : Int) = e ∧ es.getD j z29 ∈ pathR R es f (Fm es k)) ∨ V n R' (Fm es k) := by
        rcases h4 with h4 | ⟨h8, h9, h10⟩
        · exact .inr (.inl h4)
        · obtain ⟨j, hj⟩ : ∃ j : Nat, Fm es k = (j : Int) := ⟨(Fm es k).toNat, by omega⟩
          rw [hj]
          rw [hj, Int.toNat_natCast] at h10
          exact ih (dp (Fm es k)) (by omega) f j (by omega) (by rw [hj]) (by omega) h10
      rcases h7 with ⟨j, j1, j2, j3⟩ | h7
      · exact .inl ⟨j, j1, j2, List.mem_cons_of_mem _ j3⟩
      · right
        have := (h'.shut_ k ⟨h2.1, hk, rfl⟩ h7).1
        rw [h3] at this
        exact this
def Chain : Int → List S29 → Int → Prop
  | a, [], b => a = b
  | a, e :: l, b => e.f0 = a ∧ Chain e.f1 l b
theorem chain_snoc {e : S29} : ∀ {l : List S29} {a b : Int}, Chain a l b → e.f0 = b → Chain a (l ++ [e]) e.f1
  | [], a, b, h, he => ⟨he.trans h.symm, rfl⟩
  | x :: l, a, b, h, he => ⟨h.1, chain_snoc h.2 he⟩
/-- The way to a node: a chain of edges from null on, as many as it is far. -/
theorem path_chain (h : Fin_ n es.length (Fm es) (Tm es) (fun _ => false) (-1) R dp) : ∀ (d f i : Nat), i < n → dp i = d → d ≤ f → 0 ≤ R.getD i (-1) → (pathR R es f i).length = d ∧ Chain (-1) (pathR R es f i).reverse i ∧ ∀ x, x ∈ pathR R es f i → x ∈ es := by
  intro d
  induction d using Nat.strongRecOn with
  | ind d ih =>
    intro f i hi hd hf hR
    obtain ⟨k, h1, h2, h3, h4, h5⟩ := h.tree i hi hR
    obtain ⟨f, rfl⟩ : ∃ f', f = f' + 1 := ⟨f - 1, by omega⟩
    rw [pathR_go (v := (i : Int)) (k := k) (by omega) (by rw [Int.toNat_natCast]; exact h1)]
    have hmem : es.getD k z29 ∈ es := by rw [List.getD_eq_getElem?_getD, List.getElem?_eq_getElem h2.1, Option.getD_some]; exact List.getElem_mem h2.1
    have h7 : (pathR R es f (Fm es k)).length = dp (Fm es k) ∧ Chain (-1) (pathR R es f (Fm es k)).reverse (Fm es k) ∧ ∀ x, x ∈ pathR R es f (Fm es k) → x ∈ es := by
      rcases h4 with h4 | ⟨h8, h9, h10⟩
      · rw [h4, pathR_stop (.inl rfl), h.dp0]
        exact ⟨rfl, rfl, fun _ hx => by cases hx⟩
      · obtain ⟨j, hj⟩ : ∃ j : Nat, Fm es k = (j : Int) := ⟨(Fm es k).toNat, by omega⟩
        rw [hj]
        rw [hj, Int.toNat_natCast] at h10
        exact ih (dp (j : Int)) (by rw [← hj]; omega) f j (by omega) rfl (by rw [← hj]; omega) h10
    refine ⟨by rw [List.length_cons, h7.1]; omega, ?_, ?_⟩
    · rw [List.reverse_cons, ← h3]
      exact chain_snoc h7.2.1 rfl
    · intro x hx
      rcases List.mem_cons.1 hx with rfl | hx
      · exact hmem
      · exact h7.2.2 x hx
theorem path_none {i : Nat} (h : ¬ 0 ≤ R.getD i (-1)) (f : Nat) : pathR R es f i = [] := pathR_stop (.inr (by rw [Int.toNat_natCast]; omega))
end
end Go.Proofs.Ytefgfnhhoidbdaa.GrW
