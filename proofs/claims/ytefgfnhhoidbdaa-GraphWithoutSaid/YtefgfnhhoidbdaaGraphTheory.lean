/- Going through a graph, the nearest nodes first: what it finds, as lists; without any program; no condition beyond those named. -/
import Derived.RowKit
namespace Go.Proofs.Ytefgfnhhoidbdaa.Gr
set_option linter.unusedVariables false
set_option linter.unusedSimpArgs false
/-- The edges that leave a node, by their numbers. -/
def outL (m : Nat) (F : Nat → Int) (v : Int) : List Nat := (List.range m).filter fun k => decide (F k = v)
theorem mem_outL {m : Nat} {F : Nat → Int} {v : Int} {k : Nat} : k ∈ outL m F v ↔ k < m ∧ F k = v := by simp [outL]
/-- An edge is gone along. -/
def visit (T : Nat → Int) (shut : Int → Bool) (skip : Int) (st : List Int × List Int) (k : Nat) : List Int × List Int :=
  if (k : Int) = skip ∨ shut (T k) = true ∨ 0 ≤ st.1.getD (T k).toNat (-1) then st else (st.1.set (T k).toNat (k : Int), st.2 ++ [T k])
/-- All nodes that wait, in turn. -/
def bfs (m : Nat) (F T : Nat → Int) (shut : Int → Bool) (skip : Int) : Nat → List Int → List Int → Option (List Int)
  | _, by_, [] => some by_
  | 0, _, _ :: _ => none
  | f + 1, by_, a :: Q => bfs m F T shut skip f ((outL m F a).foldl (visit T shut skip) (by_, Q)).1 ((outL m F a).foldl (visit T shut skip) (by_, Q)).2
/-- How many nodes nothing has come to. -/
def un (by_ : List Int) : Nat := by_.countP fun x => decide (x < 0)
theorem un_set {by_ : List Int} {t k : Nat} (ht : t < by_.length) (hb : ¬ 0 ≤ by_.getD t (-1)) : un (by_.set t (k : Int)) + 1 = un by_ := by
  unfold un
  induction by_ generalizing t with
  | nil => simp at ht
  | cons x l ih =>
    cases t with
    | zero =>
      have : x < 0 := by simpa using hb
      rw [List.set_cons_zero, List.countP_cons_of_neg (by simp), List.countP_cons_of_pos (by simpa using this)]
    | succ t =>
      rw [List.set_cons_succ, List.countP_cons, List.countP_cons]
      have := ih (t := t) (by simpa using ht) (by simpa using hb)
      omega
section
variable (n m : Nat) (F T : Nat → Int) (shut : Int → Bool) (skip : Int)
/-- May something come along this edge? -/
def Ok (k : Nat) : Prop := k < m ∧ (k : Int) ≠ skip ∧ shut (T k) = false
/-- Has it come to this node? -/
def V (by_ : List Int) (v : Int) : Prop := v = -1 ∨ (0 ≤ v ∧ v < n ∧ 0 ≤ by_.getD v.toNat (-1))
structure Inv (by_ Q : List Int) (dp : Int → Nat) (c : Nat) (P : Nat → Prop) : Prop where
  len : by_.length = n
  dp0 : dp (-1) = 0
  tree : ∀ i : Nat, i < n → 0 ≤ by_.getD i (-1) → ∃ k : Nat, by_.getD i (-1) = k ∧ Ok m T shut skip k ∧ T k = i ∧ V n by_ (F k) ∧ dp i = dp (F k) + 1
  q : ∀ v, v ∈ Q → V n by_ v
  sorted : Q.Pairwise fun a b => dp a ≤ dp b
  qc : ∀ v, v ∈ Q → c ≤ dp v
  top : ∀ v, V n by_ v → dp v ≤ c + 1
  done : ∀ k, Ok m T shut skip k → V n by_ (F k) → F k ∈ Q ∨ ¬ P k ∨ (V n by_ (T k) ∧ dp (T k) ≤ dp (F k) + 1)
  cap : ∀ v, V n by_ v → dp v + un by_ ≤ n
variable {n m F T shut skip}
theorem V_set {by_ : List Int} {t k : Nat} (ht : t < n) (hl : by_.length = n) {v : Int} : V n (by_.set t (k : Int)) v ↔ V n by_ v ∨ v = (t : Int) := by
  unfold V
  by_cases h : v = (t : Int)
  · subst h
    simp only [Int.toNat_natCast, or_true, iff_true]
    right
    refine ⟨by omega, by omega, ?_⟩
    rw [List.getD_eq_getElem?_getD, List.getElem?_set_self (by omega), Option.getD_some]
    omega
  · simp only [h, or_false]
    by_cases h0 : v = -1
    · simp [h0]
    · by_cases h1 : 0 ≤ v
      · have hne : t ≠ v.toNat := by omega
        rw [List.getD_eq_getElem?_getD, List.getElem?_set_ne hne, ← List.getD_eq_getElem?_getD]
      · simp [h0, h1]
theorem Inv.visit (hT : ∀ k, k < m → 0 ≤ T k ∧ T k < n) {by_ Q : List Int} {dp : Int → Nat} {c : Nat} {P : Nat → Prop} {k : Nat} {a : Int} (h : Inv n m F T shut skip by_ Q dp c P) (hk : k < m) (hF : F k = a) (hV : V n by_ a) (hc : dp a = c) :
    ∃ dp', Inv n m F T shut skip (Gr.visit T shut skip (by_, Q) k).1 (Gr.visit T shut skip (by_, Q) k).2 dp' c (fun j => P j ∨ j = k) ∧ V n (Gr.visit T shut skip (by_, Q) k).1 a ∧ dp' a = c := by
  unfold Gr.visit
  have hTk := hT k hk
  by_cases hs : (k : Int) = skip ∨ shut (T k) = true ∨ 0 ≤ (by_, Q).1.getD (T k).toNat (-1)
  · rw [if_pos hs]
    refine ⟨dp, ⟨h.len, h.dp0, h.tree, h.q, h.sorted, h.qc, h.top, ?_, h.cap⟩, hV, hc⟩
    intro j hj hVj
    by_cases e : j = k
    · subst e
      rcases hs with hs | hs | hs
      · exact absurd hs hj.2.1
      · rw [hj.2.2] at hs; cases hs
      · right; right
        have hv : V n by_ (T j) := .inr ⟨hTk.1, hTk.2, hs⟩
        refine ⟨hv, ?_⟩
        rw [hF, hc]
        exact h.top _ hv
    · rcases h.done j hj hVj with h1 | h1 | h1
      · exact .inl h1
      · exact .inr (.inl (fun h2 => h2.elim h1 e))
      · exact .inr (.inr h1)
  · rw [if_neg hs]
    have hs1 : (k : Int) ≠ skip := fun e => hs (.inl e)
    have hs2 : shut (T k) = false := by
      cases e : shut (T k)
      · rfl
      · exact absurd (.inr (.inl e)) hs
    have hs3 : ¬ 0 ≤ by_.getD (T k).toNat (-1) := fun e => hs (.inr (.inr e))
    obtain ⟨t, ht⟩ : ∃ t : Nat, T k = (t : Int) := ⟨(T k).toNat, by omega⟩
    have htn : t < n := by omega
    rw [ht, Int.toNat_natCast] at hs3 ⊢
    have hnV : ¬ V n by_ (t : Int) := by
      rintro (e | ⟨_, _, e⟩)
      · omega
      · rw [Int.toNat_natCast] at e; exact hs3 e
    have hne : ∀ v, V n by_ v → v ≠ (t : Int) := fun v hv e => hnV (e ▸ hv)
    have vs := fun (v : Int) => V_set (by_ := by_) (t := t) (k := k) htn h.len (v := v)
    let dp' : Int → Nat := fun v => if v = (t : Int) then c + 1 else dp v
    have d1 : ∀ v, V n by_ v → dp' v = dp v := fun v hv => if_neg (hne v hv)
    have d2 : dp' (t : Int) = c + 1 := if_pos rfl
    refine ⟨dp', ⟨by simpa using h.len, ?_, ?_, ?_, ?_, ?_, ?_, ?_, ?_⟩, (vs a).2 (.inl hV), (d1 a hV).trans hc⟩
    · rw [d1 _ (.inl rfl)]; exact h.dp0
    · intro i hi hbi
      dsimp only at hbi ⊢
      by_cases e : i = t
      · subst e
        refine ⟨k, ?_, ⟨hk, hs1, hs2⟩, ht, (vs _).2 (.inl (hF ▸ hV)), ?_⟩
        · rw [List.getD_eq_getElem?_getD, List.getElem?_set_self (by rw [h.len]; exact hi), Option.getD_some]
        · rw [d2, d1 _ (hF ▸ hV), hF, hc]
      · rw [List.getD_eq_getElem?_getD, List.getElem?_set_ne (fun e2 => e e2.symm), ← List.getD_eq_getElem?_getD] at hbi ⊢
        obtain ⟨k2, b1, b2, b3, b4, b5⟩ := h.tree i hi hbi
        refine ⟨k2, b1, b2, b3, (vs _).2 (.inl b4), ?_⟩
        rw [d1 _ b4, d1 _ (.inr ⟨by omega, by omega, by rw [Int.toNat_natCast]; exact hbi⟩), b5]
    · intro v hv
      rw [List.mem_append, List.mem_singleton] at hv
      exact (vs v).2 (hv.imp (h.q v) id)
    · rw [List.pairwise_append]
      refine ⟨?_, by simp, ?_⟩
      · refine h.sorted.imp_of_mem ?_
        intro x y hx hy hxy
        rw [d1 x (h.q x hx), d1 y (h.q y hy)]
        exact hxy
      · intro x hx y hy
        rw [List.mem_singleton] at hy
        subst hy
        rw [d1 x (h.q x hx), d2]
        exact h.top x (h.q x hx)
    · intro v hv
      rw [List.mem_append, List.mem_singleton] at hv
      rcases hv with hv | rfl
      · rw [d1 v (h.q v hv)]; exact h.qc v hv
      · rw [d2]; omega
    · intro v hv
      rcases (vs v).1 hv with hv | rfl
      · rw [d1 v hv]; exact h.top v hv
      · rw [d2]; exact Nat.le_refl _
    · intro j hj hVj
      rcases (vs _).1 hVj with hW | hVj
      · by_cases e : j = k
        · subst e
          right; right
          refine ⟨(vs _).2 (.inr ht), ?_⟩
          rw [ht, d2, d1 _ hW, hF, hc]
          exact Nat.le_refl _
        · rcases h.done j hj hW with h1 | h1 | ⟨h1, h2⟩
          · exact .inl (List.mem_append_left _ h1)
          · exact .inr (.inl (fun h3 => h3.elim h1 e))
          · refine .inr (.inr ⟨(vs _).2 (.inl h1), ?_⟩)
            rw [d1 _ h1, d1 _ hW]
            exact h2
      · left
        rw [hVj]
        exact List.mem_append_right _ (List.mem_singleton.2 rfl)
    · intro v hv
      have hu := un_set (by_ := by_) (t := t) (k := k) (by rw [h.len]; exact htn) hs3
      rcases (vs v).1 hv with hv | rfl
      · rw [d1 v hv]
        have := h.cap v hv
        dsimp only
        omega
      · rw [d2]
        have := h.cap a hV
        dsimp only
        omega
theorem Inv.visits (hT : ∀ k, k < m → 0 ≤ T k ∧ T k < n) {a : Int} {c : Nat} : ∀ (l : List Nat) (by_ Q : List Int) (dp : Int → Nat) (P : Nat → Prop), Inv n m F T shut skip by_ Q dp c P → (∀ k, k ∈ l → k < m ∧ F k = a) → V n by_ a → dp a = c →
    ∃ dp', Inv n m F T shut skip (l.foldl (Gr.visit T shut skip) (by_, Q)).1 (l.foldl (Gr.visit T shut skip) (by_, Q)).2 dp' c (fun j => P j ∨ j ∈ l)
  | [], by_, Q, dp, P, h, _, _, _ => ⟨dp, by simpa using h⟩
  | k :: l, by_, Q, dp, P, h, hl, hV, hc => by
    obtain ⟨dp1, h1, hV1, hc1⟩ := h.visit hT (hl k (by simp)).1 (hl k (by simp)).2 hV hc
    obtain ⟨dp2, h2⟩ := Inv.visits hT l _ _ dp1 _ h1 (fun j hj => hl j (by simp [hj])) hV1 hc1
    refine ⟨dp2, ?_⟩
    rw [List.foldl_cons]
    have e : (fun j => (P j ∨ j = k) ∨ j ∈ l) = (fun j => P j ∨ j ∈ k :: l) := by
      funext j
      simp [or_assoc]
    rw [e] at h2
    exact h2
/-- What has been found in the end. -/
structure Fin_ (n m : Nat) (F T : Nat → Int) (shut : Int → Bool) (skip : Int) (by_ : List Int) (dp : Int → Nat) : Prop where
  len : by_.length = n
  dp0 : dp (-1) = 0
  tree : ∀ i : Nat, i < n → 0 ≤ by_.getD i (-1) → ∃ k : Nat, by_.getD i (-1) = k ∧ Ok m T shut skip k ∧ T k = i ∧ V n by_ (F k) ∧ dp i = dp (F k) + 1
  shut_ : ∀ k, Ok m T shut skip k → V n by_ (F k) → V n by_ (T k) ∧ dp (T k) ≤ dp (F k) + 1
  cap : ∀ v, V n by_ v → dp v ≤ n
theorem bfs_fin (hT : ∀ k, k < m → 0 ≤ T k ∧ T k < n) : ∀ (f : Nat) (by_ Q : List Int) (dp : Int → Nat) (c : Nat) (R : List Int), Inv n m F T shut skip by_ Q dp c (fun _ => True) → bfs m F T shut skip f by_ Q = some R → ∃ dp', Fin_ n m F T shut skip R dp'
  | f, by_, [], dp, c, R, h, e => by
    have : by_ = R := by cases f <;> simpa [bfs] using e
    subst this
    refine ⟨dp, h.len, h.dp0, h.tree, fun k h1 h2 => ?_, fun v hv => by have := h.cap v hv; omega⟩
    rcases h.done k h1 h2 with h3 | h3 | h3
    · cases h3
    · exact absurd trivial h3
    · exact h3
  | 0, by_, a :: Q, dp, c, R, h, e => by simp [bfs] at e
  | f + 1, by_, a :: Q, dp, c, R, h, e => by
    rw [bfs] at e
    have hs := h.sorted
    rw [List.pairwise_cons] at hs
    have ha := h.q a (by simp)
    have hca := h.qc a (by simp)
    have h0 : Inv n m F T shut skip by_ Q dp (dp a) (fun k => F k ≠ a) := by
      refine ⟨h.len, h.dp0, h.tree, fun v hv => h.q v (by simp [hv]), hs.2, fun v hv => hs.1 v hv, fun v hv => Nat.le_trans (h.top v hv) (by omega), fun k h1 h2 => ?_, h.cap⟩
      rcases h.done k h1 h2 with h3 | h3 | h3
      · rw [List.mem_cons] at h3
        rcases h3 with h3 | h3
        · exact .inr (.inl (fun h4 => h4 h3))
        · exact .inl h3
      · exact absurd trivial h3
      · exact .inr (.inr h3)
    obtain ⟨dp1, h1⟩ := Inv.visits hT (outL m F a) by_ Q dp _ h0 (fun k hk => mem_outL.1 hk) ha rfl
    refine bfs_fin hT f _ _ dp1 (dp a) R ⟨h1.len, h1.dp0, h1.tree, h1.q, h1.sorted, h1.qc, h1.top, fun k h2 h3 => ?_, h1.cap⟩ e
    rcases h1.done k h2 h3 with h4 | h4 | h4
    · exact .inl h4
    · exact absurd (Classical.byCases (fun e : F k = a => Or.inr (mem_outL.2 ⟨h2.1, e⟩)) (fun e => Or.inl e)) h4
    · exact .inr (.inr h4)
theorem visits_un {n : Nat} (hT : ∀ k, k < m → 0 ≤ T k ∧ T k < n) : ∀ (l : List Nat) (by_ Q : List Int), by_.length = n → (∀ k, k ∈ l → k < m) →
    un (l.foldl (Gr.visit T shut skip) (by_, Q)).1 + (l.foldl (Gr.visit T shut skip) (by_, Q)).2.length = un by_ + Q.length ∧ (l.foldl (Gr.visit T shut skip) (by_, Q)).1.length = n
  | [], by_, Q, hl, _ => ⟨rfl, hl⟩
  | k :: l, by_, Q, hl, hm => by
    rw [List.foldl_cons]
    have hk := hT k (hm k (by simp))
    by_cases hs : (k : Int) = skip ∨ shut (T k) = true ∨ 0 ≤ by_.getD (T k).toNat (-1)
    · have e : Gr.visit T shut skip (by_, Q) k = (by_, Q) := by unfold Gr.visit; rw [if_pos hs]
      rw [e]
      exact visits_un hT l by_ Q hl (fun j hj => hm j (by simp [hj]))
    · have e : Gr.visit T shut skip (by_, Q) k = (by_.set (T k).toNat (k : Int), Q ++ [T k]) := by unfold Gr.visit; rw [if_neg hs]
      rw [e]
      have ih := visits_un hT l (by_.set (T k).toNat (k : Int)) (Q ++ [T k]) (by simpa using hl) (fun j hj => hm j (by simp [hj]))
      have hu := un_set (by_ := by_) (t := (T k).toNat) (k := k) (by omega) (fun h => hs (.inr (.inr h)))
      refine ⟨?_, ih.2⟩
      rw [ih.1, List.length_append, List.length_singleton]
      omega
theorem bfs_some {n : Nat} (hT : ∀ k, k < m → 0 ≤ T k ∧ T k < n) : ∀ (f : Nat) (by_ Q : List Int), by_.length = n → un by_ + Q.length ≤ f → ∃ R, bfs m F T shut skip f by_ Q = some R
  | f, by_, [], _, _ => ⟨by_, by cases f <;> rfl⟩
  | 0, by_, a :: Q, _, h => by simp at h
  | f + 1, by_, a :: Q, hl, h => by
    have hv := visits_un (shut := shut) (skip := skip) hT (outL m F a) by_ Q hl (fun k hk => (mem_outL.1 hk).1)
    rw [bfs]
    refine bfs_some hT f _ _ hv.2 ?_
    rw [List.length_cons] at h
    omega
/-- Where nothing has come yet but from null. -/
def none0 (n : Nat) : List Int := List.replicate n (-1)
theorem none0_get (n i : Nat) : (none0 n).getD i (-1) = -1 := by
  rw [none0, List.getD_eq_getElem?_getD, List.getElem?_replicate]
  split <;> rfl
theorem un_none0 (n : Nat) : un (none0 n) = n := by
  unfold un none0
  rw [List.countP_replicate]
  simp
theorem start_inv : Inv n m F T shut skip (none0 n) [-1] (fun _ => 0) 0 (fun _ => True) := by
  have hv : ∀ v, V n (none0 n) v ↔ v = -1 := by
    intro v
    unfold V
    rw [none0_get]
    omega
  refine ⟨by simp [none0], rfl, fun i _ h => ?_, fun v h => ?_, by simp, fun v _ => Nat.zero_le _, fun v _ => Nat.zero_le _, fun k _ h => ?_, fun v _ => by rw [un_none0]; omega⟩
  · rw [none0_get] at h; omega
  · rw [List.mem_singleton] at h; exact (hv v).2 h
  · left; rw [(hv _).1 h]; exact List.mem_singleton.2 rfl
end
/-- By which edge it comes to each node. -/
noncomputable def walkL (n m : Nat) (F T : Nat → Int) (shut : Int → Bool) (skip : Int) : List Int := (bfs m F T shut skip (n + 1) (none0 n) [-1]).getD []
theorem walkL_eq {n m : Nat} {F T : Nat → Int} {shut : Int → Bool} {skip : Int} (hT : ∀ k, k < m → 0 ≤ T k ∧ T k < n) : bfs m F T shut skip (n + 1) (none0 n) [-1] = some (walkL n m F T shut skip) := by
  obtain ⟨R, hR⟩ := bfs_some (F := F) (shut := shut) (skip := skip) hT (n + 1) (none0 n) [-1] (by simp [none0]) (by rw [un_none0]; exact Nat.le_refl _)
  rw [walkL, hR]
  rfl
theorem walkL_fin {n m : Nat} {F T : Nat → Int} {shut : Int → Bool} {skip : Int} (hT : ∀ k, k < m → 0 ≤ T k ∧ T k < n) : ∃ dp, Fin_ n m F T shut skip (walkL n m F T shut skip) dp :=
  bfs_fin hT _ _ _ _ _ _ start_inv (walkL_eq hT)
end Go.Proofs.Ytefgfnhhoidbdaa.Gr
