/- How far two texts are apart: ways through the table of their pairs, and the fewest steps that aren't along; plain lists, no program. -/
namespace Go.Diff
/-- A way to (i, j) with d steps that take away or put in; such steps may leave the table, steps along may not. -/
inductive Reach (E : Nat → Nat → Prop) (N M : Nat) : Nat → Nat → Nat → Prop
  | start : Reach E N M 0 0 0
  | del {d i j : Nat} : Reach E N M d i j → Reach E N M (d + 1) (i + 1) j
  | ins {d i j : Nat} : Reach E N M d i j → Reach E N M (d + 1) i (j + 1)
  | along {d i j : Nat} : Reach E N M d i j → i < N → j < M → E i j → Reach E N M d (i + 1) (j + 1)
variable {E : Nat → Nat → Prop} {N M : Nat}
theorem Reach.parity {d i j : Nat} (h : Reach E N M d i j) : ∃ c, i + j = 2 * c + d ∧ d ≤ i + j := by
  induction h with
  | start => exact ⟨0, rfl, Nat.le_refl _⟩
  | del _ ih => obtain ⟨c, h1, h2⟩ := ih; exact ⟨c, by omega, by omega⟩
  | ins _ ih => obtain ⟨c, h1, h2⟩ := ih; exact ⟨c, by omega, by omega⟩
  | along _ _ _ _ ih => obtain ⟨c, h1, h2⟩ := ih; exact ⟨c + 1, by omega, by omega⟩
theorem Reach.diag {d i j : Nat} (h : Reach E N M d i j) : i ≤ j + d ∧ j ≤ i + d := by
  induction h with
  | start => omega
  | del _ ih => omega
  | ins _ ih => omega
  | along _ _ _ _ ih => omega
theorem Reach.dels (i : Nat) : Reach E N M i i 0 := by
  induction i with
  | zero => exact .start
  | succ i ih => exact ih.del
theorem Reach.inss {d i j : Nat} (h : Reach E N M d i j) (n : Nat) : Reach E N M (d + n) i (j + n) := by
  induction n with
  | zero => exact h
  | succ n ih => exact ih.ins
theorem Reach.any (i j : Nat) : Reach E N M (i + j) i j := by
  have := Reach.inss (Reach.dels (E := E) (N := N) (M := M) i) j
  simpa using this
/-- Steps along come first: whatever is reached with a step more is reached by a run along behind a step. -/
theorem Reach.run {d i j : Nat} (h : Reach E N M d i j) : ∃ s i' j', i = i' + s ∧ j = j' + s ∧ (∀ t, t < s → i' + t < N ∧ j' + t < M ∧ E (i' + t) (j' + t)) ∧
    ((d = 0 ∧ i' = 0 ∧ j' = 0) ∨ (∃ e a, d = e + 1 ∧ i' = a + 1 ∧ Reach E N M e a j') ∨ (∃ e b, d = e + 1 ∧ j' = b + 1 ∧ Reach E N M e i' b)) := by
  induction h with
  | start => exact ⟨0, 0, 0, rfl, rfl, fun t h => absurd h (Nat.not_lt_zero _), .inl ⟨rfl, rfl, rfl⟩⟩
  | @del d i j h _ => exact ⟨0, i + 1, j, rfl, rfl, fun t h => absurd h (Nat.not_lt_zero _), .inr (.inl ⟨d, i, rfl, rfl, h⟩)⟩
  | @ins d i j h _ => exact ⟨0, i, j + 1, rfl, rfl, fun t h => absurd h (Nat.not_lt_zero _), .inr (.inr ⟨d, j, rfl, rfl, h⟩)⟩
  | @along d i j h h1 h2 h3 ih =>
    obtain ⟨s, i', j', e1, e2, ha, hl⟩ := ih
    refine ⟨s + 1, i', j', by omega, by omega, fun t ht => ?_, hl⟩
    by_cases h : t < s
    · exact ha t h
    · have : t = s := by omega
      subst this
      rw [← e1, ← e2]
      exact ⟨h1, h2, h3⟩
theorem Reach.alongs {d i j : Nat} (h : Reach E N M d i j) : ∀ s, (∀ t, t < s → i + t < N ∧ j + t < M ∧ E (i + t) (j + t)) → Reach E N M d (i + s) (j + s)
  | 0, _ => h
  | s + 1, ha => .along (h.alongs s fun t ht => ha t (by omega)) (ha s (by omega)).1 (ha s (by omega)).2.1 (ha s (by omega)).2.2
/-- A front: the farthest place on a diagonal. -/
def Far (E : Nat → Nat → Prop) (N M d i j : Nat) : Prop := Reach E N M d i j ∧ ∀ i' j', i' + j = i + j' → Reach E N M d i' j' → i' ≤ i
/-- A run along from (i, j) that can't go on. -/
def RunEnd (E : Nat → Nat → Prop) (N M i j i' j' : Nat) : Prop := ∃ s, i' = i + s ∧ j' = j + s ∧ (∀ t, t < s → i + t < N ∧ j + t < M ∧ E (i + t) (j + t)) ∧ ¬ (i' < N ∧ j' < M ∧ E i' j')
/-- .. ends on the front, if it begins no earlier than the fronts ahead come to by a step, and where one does. -/
theorem far_of_run {d i j i' j' : Nat} (h : Reach E N M d i j) (hr : RunEnd E N M i j i' j')
    (hb : ∀ a b, a + j = i + b → (∃ e c, d = e + 1 ∧ a = c + 1 ∧ Reach E N M e c b) ∨ (∃ e c, d = e + 1 ∧ b = c + 1 ∧ Reach E N M e a c) ∨ (d = 0 ∧ a = 0 ∧ b = 0) → a ≤ i) : Far E N M d i' j' := by
  obtain ⟨s, rfl, rfl, ha, hn⟩ := hr
  refine ⟨h.alongs s ha, fun x y he hx => ?_⟩
  obtain ⟨u, a, b, rfl, rfl, hu, hl⟩ := hx.run
  have h1 : a ≤ i := hb a b (by omega) (by rcases hl with hl | hl | hl <;> simp_all)
  rcases Nat.lt_or_ge (i + s) (a + u) with hlt | hge
  · exfalso
    apply hn
    have h2 := hu (i + s - a) (by omega)
    rw [show a + (i + s - a) = i + s by omega, show b + (i + s - a) = j + s by omega] at h2
    exact h2
  · exact hge
/-- Fewer steps may come by way of a third text. -/
theorem Reach.then {E1 E2 E3 : Nat → Nat → Prop} {N M K : Nat} (hE : ∀ i j k, E1 i j → E2 j k → E3 i k) : ∀ (n d1 d2 i j k : Nat), i + j + k ≤ n → Reach E1 N M d1 i j → Reach E2 M K d2 j k → ∃ d, d ≤ d1 + d2 ∧ Reach E3 N K d i k := by
  intro n
  induction n with
  | zero =>
    intro d1 d2 i j k hn _ _
    obtain rfl : i = 0 := by omega
    obtain rfl : k = 0 := by omega
    exact ⟨0, Nat.zero_le _, .start⟩
  | succ n ih =>
    intro d1 d2 i j k hn h1 h2
    cases h1 with
    | start =>
      have := h2.diag
      refine ⟨k, by omega, ?_⟩
      have := Reach.inss (Reach.start (E := E3) (N := N) (M := K)) k
      simpa using this
    | @del d i j h1 =>
      obtain ⟨d', hd, hr⟩ := ih d d2 i j k (by omega) h1 h2
      exact ⟨d' + 1, by omega, hr.del⟩
    | @ins d i j h1 =>
      cases h2 with
      | @del e _ _ h2 =>
        obtain ⟨d', hd, hr⟩ := ih d e i j k (by omega) h1 h2
        exact ⟨d', by omega, hr⟩
      | @ins e _ k h2 =>
        obtain ⟨d', hd, hr⟩ := ih (d + 1) e i (j + 1) k (by omega) h1.ins h2
        exact ⟨d' + 1, by omega, hr.ins⟩
      | @along e _ k h2 _ _ _ =>
        obtain ⟨d', hd, hr⟩ := ih d d2 i j k (by omega) h1 h2
        exact ⟨d' + 1, by omega, hr.ins⟩
    | @along d i j h1 a1 a2 a3 =>
      cases h2 with
      | @del e _ _ h2 =>
        obtain ⟨d', hd, hr⟩ := ih d1 e i j k (by omega) h1 h2
        exact ⟨d' + 1, by omega, hr.del⟩
      | @ins e _ k h2 =>
        obtain ⟨d', hd, hr⟩ := ih d1 e (i + 1) (j + 1) k (by omega) (h1.along a1 a2 a3) h2
        exact ⟨d' + 1, by omega, hr.ins⟩
      | @along e _ k h2 b1 b2 b3 =>
        obtain ⟨d', hd, hr⟩ := ih d1 d2 i j k (by omega) h1 h2
        exact ⟨d', hd, hr.along a1 b2 (hE _ _ _ a3 b3)⟩
theorem Reach.flip {d i j : Nat} (h : Reach E N M d i j) : Reach (fun a b => E b a) M N d j i := by
  induction h with
  | start => exact .start
  | del _ ih => exact ih.ins
  | ins _ ih => exact ih.del
  | along _ h1 h2 h3 ih => exact ih.along h2 h1 h3
/-! the table of all pairs -/
def lcs (e : Nat → Nat → Bool) : Nat → Nat → Nat
  | 0, _ => 0
  | _ + 1, 0 => 0
  | i + 1, j + 1 => max (max (lcs e i (j + 1)) (lcs e (i + 1) j)) (if e i j = true then lcs e i j + 1 else 0)
theorem lcs_zero (e : Nat → Nat → Bool) : ∀ i, lcs e i 0 = 0
  | 0 => by rw [lcs]
  | i + 1 => by rw [lcs]
theorem lcs_up (e : Nat → Nat → Bool) (i j : Nat) : lcs e i j ≤ lcs e (i + 1) j := by
  cases j with
  | zero => rw [lcs_zero]; exact Nat.zero_le _
  | succ j => rw [lcs]; omega
theorem lcs_on (e : Nat → Nat → Bool) (i j : Nat) : lcs e i j ≤ lcs e i (j + 1) := by
  cases i with
  | zero => rw [lcs]; exact Nat.zero_le _
  | succ i => rw [lcs.eq_3]; omega
theorem lcs_both (e : Nat → Nat → Bool) (i j : Nat) (h : e i j = true) : lcs e i j + 1 ≤ lcs e (i + 1) (j + 1) := by
  rw [lcs.eq_3, if_pos h]
  omega
theorem lcs_least {e : Nat → Nat → Bool} {N M d i j : Nat} (h : Reach (fun a b => e a b = true) N M d i j) : i + j ≤ 2 * lcs e i j + d := by
  induction h with
  | start => omega
  | @del d i j _ ih => have := lcs_up e i j; omega
  | @ins d i j _ ih => have := lcs_on e i j; omega
  | @along d i j _ _ _ h3 ih => have := lcs_both e i j h3; omega
theorem lcs_reach (e : Nat → Nat → Bool) (N M : Nat) : ∀ n i j : Nat, i + j ≤ n → i ≤ N → j ≤ M → ∃ d, Reach (fun a b => e a b = true) N M d i j ∧ i + j = 2 * lcs e i j + d := by
  intro n
  induction n with
  | zero =>
    intro i j hn _ _
    obtain rfl : i = 0 := by omega
    obtain rfl : j = 0 := by omega
    exact ⟨0, .start, by rw [lcs]⟩
  | succ n ih =>
    intro i j hn hi hj
    cases i with
    | zero =>
      refine ⟨j, ?_, by rw [lcs]⟩
      have := Reach.inss (Reach.start (E := fun a b => e a b = true) (N := N) (M := M)) j
      simpa using this
    | succ i =>
      cases j with
      | zero => exact ⟨i + 1, Reach.dels (i + 1), by rw [lcs_zero]; omega⟩
      | succ j =>
        obtain ⟨d1, h1, e1⟩ := ih i (j + 1) (by omega) (by omega) hj
        obtain ⟨d2, h2, e2⟩ := ih (i + 1) j (by omega) hi (by omega)
        have hm : lcs e (i + 1) (j + 1) = max (max (lcs e i (j + 1)) (lcs e (i + 1) j)) (if e i j = true then lcs e i j + 1 else 0) := lcs.eq_3 e i j
        rw [Nat.max_def, Nat.max_def] at hm
        by_cases ha : lcs e (i + 1) (j + 1) = lcs e i (j + 1)
        · exact ⟨d1 + 1, h1.del, by omega⟩
        · by_cases hb : lcs e (i + 1) (j + 1) = lcs e (i + 1) j
          · exact ⟨d2 + 1, h2.ins, by omega⟩
          · by_cases hc : e i j = true
            · obtain ⟨d3, h3, e3⟩ := ih i j (by omega) (by omega) (by omega)
              rw [if_pos hc] at hm
              refine ⟨d3, h3.along (by omega) (by omega) hc, ?_⟩
              split at hm <;> (try split at hm) <;> (try split at hm) <;> omega
            · rw [if_neg hc] at hm
              split at hm <;> (try split at hm) <;> (try split at hm) <;> omega
/-- The fewest steps to the end. -/
theorem lcs_dist (e : Nat → Nat → Bool) (N M : Nat) : 2 * lcs e N M ≤ N + M ∧ Reach (fun a b => e a b = true) N M (N + M - 2 * lcs e N M) N M ∧ ∀ d, Reach (fun a b => e a b = true) N M d N M → N + M - 2 * lcs e N M ≤ d := by
  obtain ⟨d, h, e1⟩ := lcs_reach e N M (N + M) N M (Nat.le_refl _) (Nat.le_refl _) (Nat.le_refl _)
  refine ⟨by omega, by rwa [show N + M - 2 * lcs e N M = d by omega], fun d' h' => by have := lcs_least h'; omega⟩
/-! the fronts, by whole numbers -/
def At (E : Nat → Nat → Prop) (N M d : Nat) (k i : Int) : Prop := ∃ a b : Nat, (a : Int) = i ∧ (b : Int) = i - k ∧ Far E N M d a b
theorem At.uniq {d : Nat} {k i j : Int} (h1 : At E N M d k i) (h2 : At E N M d k j) : i = j := by
  obtain ⟨a, b, ha, hb, hr, hm⟩ := h1
  obtain ⟨a', b', ha', hb', hr', hm'⟩ := h2
  have e1 := hm a' b' (by omega) hr'
  have e2 := hm' a b (by omega) hr
  omega
/-- Where the next front's diagonal begins. -/
theorem step_start {e : Nat} {k : Int} {p : Int → Int} (hk1 : -((e : Int) + 1) ≤ k) (hk2 : k ≤ (e : Int) + 1) (hpar : (k + ((e : Int) + 1)) % 2 = 0)
    (hp : ∀ k', -(e : Int) ≤ k' → k' ≤ e → (k' + e) % 2 = 0 → At E N M e k' (p k')) :
    ∃ a b : Nat, (a : Int) = (if k = -((e : Int) + 1) ∨ (k ≠ (e : Int) + 1 ∧ p (k - 1) < p (k + 1)) then p (k + 1) else p (k - 1) + 1) ∧ (b : Int) = a - k ∧ Reach E N M (e + 1) a b ∧
      ∀ a' b', a' + b = a + b' → ((∃ e' c, e + 1 = e' + 1 ∧ a' = c + 1 ∧ Reach E N M e' c b') ∨ (∃ e' c, e + 1 = e' + 1 ∧ b' = c + 1 ∧ Reach E N M e' a' c) ∨ (e + 1 = 0 ∧ a' = 0 ∧ b' = 0)) → a' ≤ a := by
  by_cases hc : k = -((e : Int) + 1) ∨ (k ≠ (e : Int) + 1 ∧ p (k - 1) < p (k + 1))
  · rw [if_pos hc]
    obtain ⟨a, b, ha, hb, hr, hm⟩ := hp (k + 1) (by omega) (by omega) (by omega)
    refine ⟨a, b + 1, ha, by omega, hr.ins, fun a' b' he h => ?_⟩
    rcases h with ⟨e', c, h1, rfl, h2⟩ | ⟨e', c, h1, rfl, h2⟩ | ⟨h, _⟩
    · obtain rfl : e' = e := by omega
      rcases hc with hc | ⟨hc1, hc2⟩
      · have := h2.diag
        omega
      · have h3 := h2.diag
        obtain ⟨a2, b2, ha2, hb2, hr2, hm2⟩ := hp (k - 1) (by omega) (by omega) (by omega)
        have := hm2 c b' (by omega) h2
        omega
    · obtain rfl : e' = e := by omega
      exact hm a' c (by omega) h2
    · omega
  · rw [if_neg hc]
    have hc1 : k ≠ -((e : Int) + 1) := fun h => hc (.inl h)
    obtain ⟨a, b, ha, hb, hr, hm⟩ := hp (k - 1) (by omega) (by omega) (by omega)
    refine ⟨a + 1, b, by omega, by omega, hr.del, fun a' b' he h => ?_⟩
    rcases h with ⟨e', c, h1, rfl, h2⟩ | ⟨e', c, h1, rfl, h2⟩ | ⟨h, _⟩
    · obtain rfl : e' = e := by omega
      have := hm c b' (by omega) h2
      omega
    · obtain rfl : e' = e := by omega
      by_cases hk : k = (e' : Int) + 1
      · have := h2.diag
        omega
      · obtain ⟨a2, b2, ha2, hb2, hr2, hm2⟩ := hp (k + 1) (by omega) (by omega) (by omega)
        have h3 := hm2 a' c (by omega) h2
        have h4 : ¬ p (k - 1) < p (k + 1) := fun h => hc (.inr ⟨hk, h⟩)
        omega
    · omega
/-- The next front. -/
theorem step_far {e : Nat} {k i j : Int} {p : Int → Int} (hk1 : -((e : Int) + 1) ≤ k) (hk2 : k ≤ (e : Int) + 1) (hpar : (k + ((e : Int) + 1)) % 2 = 0)
    (hp : ∀ k', -(e : Int) ≤ k' → k' ≤ e → (k' + e) % 2 = 0 → At E N M e k' (p k'))
    (hr : ∀ a b : Nat, (a : Int) = (if k = -((e : Int) + 1) ∨ (k ≠ (e : Int) + 1 ∧ p (k - 1) < p (k + 1)) then p (k + 1) else p (k - 1) + 1) → (b : Int) = a - k → ∃ a' b' : Nat, (a' : Int) = i ∧ (b' : Int) = j ∧ RunEnd E N M a b a' b') : At E N M (e + 1) k i ∧ j = i - k := by
  obtain ⟨a, b, ha, hb, hre, hm⟩ := step_start hk1 hk2 hpar hp
  obtain ⟨a', b', ha', hb', h⟩ := hr a b ha hb
  have hf := far_of_run hre h hm
  obtain ⟨s, h1, h2, _⟩ := h
  exact ⟨⟨a', b', ha', by omega, hf⟩, by omega⟩
theorem first_far {i j : Int} (hr : ∃ a' b' : Nat, (a' : Int) = i ∧ (b' : Int) = j ∧ RunEnd E N M 0 0 a' b') : At E N M 0 0 i ∧ j = i := by
  obtain ⟨a', b', ha', hb', h⟩ := hr
  have hf : Far E N M 0 a' b' := far_of_run (.start) h fun a b he h => by
    rcases h with ⟨e, c, h1, _⟩ | ⟨e, c, h1, _⟩ | ⟨_, h, _⟩ <;> omega
  obtain ⟨s, h1, h2, _⟩ := h
  exact ⟨⟨a', b', ha', by omega, hf⟩, by omega⟩
end Go.Diff
/-! back along the fronts -/
namespace Go.Diff
variable {E : Nat → Nat → Prop} {N M : Nat}
theorem far_run {d a b i j : Nat} (hf : Far E N M d i j) (he : a + j = i + b) (hr : Reach E N M d a b)
    (hb : ∀ a' b', a' + b = a + b' → ((∃ e c, d = e + 1 ∧ a' = c + 1 ∧ Reach E N M e c b') ∨ (∃ e c, d = e + 1 ∧ b' = c + 1 ∧ Reach E N M e a' c) ∨ (d = 0 ∧ a' = 0 ∧ b' = 0)) → a' ≤ a) :
    ∃ s, i = a + s ∧ j = b + s ∧ ∀ t, t < s → a + t < N ∧ b + t < M ∧ E (a + t) (b + t) := by
  have h1 := hf.2 a b he hr
  obtain ⟨s, i', j', e1, e2, ha, hl⟩ := hf.1.run
  have h2 : i' ≤ a := hb i' j' (by omega) (by rcases hl with hl | hl | hl <;> simp_all)
  refine ⟨i - a, by omega, by omega, fun t ht => ?_⟩
  have := ha (a - i' + t) (by omega)
  rwa [show i' + (a - i' + t) = a + t by omega, show j' + (a - i' + t) = b + t by omega] at this
/-- Stretches that stand in both texts, in order, from (at, bt) on. -/
def Stretches (E : Nat → Nat → Prop) (N M : Nat) : Nat → Nat → List (Nat × Nat × Nat) → Prop
  | i, j, [] => i ≤ N ∧ j ≤ M
  | i, j, (a, b, n) :: l => i ≤ a ∧ j ≤ b ∧ 0 < n ∧ a + n ≤ N ∧ b + n ≤ M ∧ (∀ t, t < n → E (a + t) (b + t)) ∧ Stretches E N M (a + n) (b + n) l
def total : List (Nat × Nat × Nat) → Nat
  | [] => 0
  | (_, _, n) :: l => n + total l
theorem Stretches.lower {i j i' j' : Nat} {l : List (Nat × Nat × Nat)} (h : Stretches E N M i j l) (hi : i' ≤ i) (hj : j' ≤ j) : Stretches E N M i' j' l := by
  match l, h with
  | [], h => exact ⟨Nat.le_trans hi h.1, Nat.le_trans hj h.2⟩
  | (a, b, n) :: l, h => exact ⟨Nat.le_trans hi h.1, Nat.le_trans hj h.2.1, h.2.2⟩
theorem Stretches.total_le {l : List (Nat × Nat × Nat)} : ∀ {i j : Nat}, Stretches E N M i j l → i + total l ≤ N ∧ j + total l ≤ M := by
  induction l with
  | nil => intro i j h; exact h
  | cons x l ih =>
    obtain ⟨a, b, n⟩ := x
    intro i j h
    obtain ⟨h1, h2, _, h4, h5, _, h7⟩ := h
    have := ih h7
    simp only [total]
    omega
/-- As many steps as stretches leave are a way. -/
theorem Stretches.reach {l : List (Nat × Nat × Nat)} : ∀ {i j d : Nat}, Stretches E N M i j l → Reach E N M d i j → ∃ d', Reach E N M d' N M ∧ d' + 2 * total l = d + (N - i) + (M - j) := by
  induction l with
  | nil =>
    intro i j d h hr
    obtain ⟨h1, h2⟩ := h
    have hd : ∀ n, Reach E N M (d + n) (i + n) j := fun n => by
      induction n with
      | zero => exact hr
      | succ n ih => exact ih.del
    have := (hd (N - i)).inss (M - j)
    rw [show i + (N - i) = N by omega, show j + (M - j) = M by omega] at this
    exact ⟨_, this, by simp only [total]; omega⟩
  | cons x l ih =>
    obtain ⟨a, b, n⟩ := x
    intro i j d h hr
    obtain ⟨h1, h2, _, h4, h5, h6, h7⟩ := h
    have hd : ∀ n, Reach E N M (d + n) (i + n) j := fun n => by
      induction n with
      | zero => exact hr
      | succ n ih => exact ih.del
    have h8 := (hd (a - i)).inss (b - j)
    rw [show i + (a - i) = a by omega, show j + (b - j) = b by omega] at h8
    have h9 := h8.alongs n fun t ht => ⟨by omega, by omega, h6 t ht⟩
    obtain ⟨d', hr', e⟩ := ih h7 h9
    have := h7.total_le
    exact ⟨d', hr', by simp only [total]; omega⟩
end Go.Diff
/-! behind the ends -/
namespace Go.Diff
variable {E : Nat → Nat → Prop} {N M : Nat}
theorem Reach.back_j {d i j : Nat} (h : Reach E N M d i j) : M ≤ j → ∃ d', d' + (j - M) ≤ d ∧ Reach E N M d' i M := by
  induction h with
  | start => intro hj; exact ⟨0, by omega, by rw [show M = 0 by omega]; exact .start⟩
  | @del d i j h ih => intro hj; obtain ⟨d', h1, h2⟩ := ih hj; exact ⟨d' + 1, by omega, h2.del⟩
  | @ins d i j h ih =>
    intro hj
    by_cases h1 : M ≤ j
    · obtain ⟨d', h1, h2⟩ := ih h1
      exact ⟨d', by omega, h2⟩
    · have e : M = j + 1 := by omega
      exact ⟨d + 1, by omega, by rw [e]; rw [e] at h; exact h.ins⟩
  | @along d i j h h1 h2 h3 ih =>
    intro hj
    have e : M = j + 1 := by omega
    exact ⟨d, by omega, by rw [e]; rw [e] at h h2; exact h.along h1 h2 h3⟩
theorem Reach.back_i {d i j : Nat} (h : Reach E N M d i j) : N ≤ i → ∃ d', d' + (i - N) ≤ d ∧ Reach E N M d' N j := by
  intro hi
  obtain ⟨d', h1, h2⟩ := h.flip.back_j hi
  exact ⟨d', h1, h2.flip⟩
theorem Reach.back_both {d i j : Nat} (h : Reach E N M d i j) (hi : N ≤ i) (hj : M ≤ j) : ∃ d', d' + (i - N) + (j - M) ≤ d ∧ Reach E N M d' N M := by
  obtain ⟨d1, h1, h2⟩ := h.back_i hi
  obtain ⟨d2, h3, h4⟩ := h2.back_j hj
  exact ⟨d2, by omega, h4⟩
/-- The first front that comes to both ends comes there just. -/
theorem end_just {d : Nat} {k i : Int} (h : At E N M d k i) (hi : (N : Int) ≤ i) (hj : (M : Int) ≤ i - k) (hno : ∀ e, e < d → ¬ Reach E N M e N M) : i = N ∧ i - k = M ∧ Reach E N M d N M := by
  obtain ⟨a, b, ha, hb, hr, _⟩ := h
  obtain ⟨d', h1, h2⟩ := hr.back_both (by omega) (by omega)
  have h3 : ¬ d' < d := fun h => hno d' h h2
  have h4 : a = N := by omega
  have h5 : b = M := by omega
  subst h4 h5
  exact ⟨by omega, by omega, hr⟩
/-- A front none of whose places is at both ends, or behind, comes to the ends by no way. -/
theorem no_end {d : Nat} {p : Int → Int} (hp : ∀ k, -(d : Int) ≤ k → k ≤ d → (k + d) % 2 = 0 → At E N M d k (p k) ∧ ¬ ((N : Int) ≤ p k ∧ (M : Int) ≤ p k - k)) : ¬ Reach E N M d N M := by
  intro h
  have h1 := h.diag
  obtain ⟨c, h2, h3⟩ := h.parity
  obtain ⟨⟨a, b, ha, hb, hr, hm⟩, hn⟩ := hp ((N : Int) - M) (by omega) (by omega) (by omega)
  have := hm N M (by omega) h
  exact hn ⟨by omega, by omega⟩
theorem Reach.bound {d i j : Nat} (h : Reach E N M d i j) : i ≤ N + d ∧ j ≤ M + d := by
  induction h with
  | start => omega
  | del _ ih => omega
  | ins _ ih => omega
  | along _ h1 h2 _ ih => omega
/-! bytes ahead of both texts, and behind -/
theorem Reach.shift {e : Nat → Nat → Prop} {n : Nat} (hn : ∀ t, t < n → e t t) {d i j : Nat} (h : Reach (fun a b => e (n + a) (n + b)) N M d i j) : Reach e (n + N) (n + M) d (n + i) (n + j) := by
  induction h with
  | start =>
    have := Reach.alongs (Reach.start (E := e) (N := n + N) (M := n + M)) n fun t ht => ⟨by omega, by omega, by simpa using hn t ht⟩
    simpa using this
  | del _ ih => exact ih.del
  | ins _ ih => exact ih.ins
  | along _ h1 h2 h3 ih => exact ih.along (by omega) (by omega) h3
theorem Reach.unshift {e : Nat → Nat → Prop} {n N' M' : Nat} (hN : N' = n + N) (hM : M' = n + M) {d i j : Nat} (h : Reach e N' M' d i j) : n ≤ i → n ≤ j → ∃ d', d' ≤ d ∧ Reach (fun a b => e (n + a) (n + b)) N M d' (i - n) (j - n) := by
  have zero : ∀ d i j : Nat, Reach e N' M' d i j → n ≤ i → n ≤ j → i = n ∨ j = n → ∃ d', d' ≤ d ∧ Reach (fun a b => e (n + a) (n + b)) N M d' (i - n) (j - n) := by
    intro d i j h hi hj hz
    have hd := h.diag
    rcases hz with rfl | rfl
    · refine ⟨j - i, by omega, ?_⟩
      have := Reach.inss (Reach.start (E := fun a b => e (i + a) (i + b)) (N := N) (M := M)) (j - i)
      simpa using this
    · refine ⟨i - j, by omega, ?_⟩
      have := Reach.dels (E := fun a b => e (j + a) (j + b)) (N := N) (M := M) (i - j)
      simpa using this
  induction h with
  | start => intro hi hj; exact zero 0 0 0 .start hi hj (.inl (by omega))
  | @del d i j h ih =>
    intro hi hj
    by_cases hz : i + 1 = n ∨ j = n
    · exact zero _ _ _ h.del hi hj hz
    · obtain ⟨d', h1, h2⟩ := ih (by omega) hj
      exact ⟨d' + 1, by omega, by rw [show i + 1 - n = (i - n) + 1 by omega]; exact h2.del⟩
  | @ins d i j h ih =>
    intro hi hj
    by_cases hz : i = n ∨ j + 1 = n
    · exact zero _ _ _ h.ins hi hj hz
    · obtain ⟨d', h1, h2⟩ := ih hi (by omega)
      exact ⟨d' + 1, by omega, by rw [show j + 1 - n = (j - n) + 1 by omega]; exact h2.ins⟩
  | @along d i j h h1 h2 h3 ih =>
    intro hi hj
    by_cases hz : i + 1 = n ∨ j + 1 = n
    · exact zero _ _ _ (h.along h1 h2 h3) hi hj hz
    · obtain ⟨d', h4, h5⟩ := ih (by omega) (by omega)
      refine ⟨d', h4, ?_⟩
      rw [show i + 1 - n = (i - n) + 1 by omega, show j + 1 - n = (j - n) + 1 by omega]
      exact h5.along (by omega) (by omega) (by rw [show n + (i - n) = i by omega, show n + (j - n) = j by omega]; exact h3)
end Go.Diff
/-! the fewest steps -/
namespace Go.Diff
variable {E : Nat → Nat → Prop} {N M : Nat}
theorem Reach.less_i {d i j : Nat} (h : Reach E N M d i j) : ∀ a, i = a + 1 → ∃ d', d' ≤ d + 1 ∧ Reach E N M d' a j := by
  induction h with
  | start => intro a h; omega
  | @del d i j h _ => intro a ha; obtain rfl : i = a := (by omega); exact ⟨d, by omega, h⟩
  | @ins d i j h ih => intro a ha; obtain ⟨d', h1, h2⟩ := ih a ha; exact ⟨d' + 1, by omega, h2.ins⟩
  | @along d i j h _ _ _ _ => intro a ha; obtain rfl : i = a := (by omega); exact ⟨d + 1, by omega, h.ins⟩
theorem Reach.less_j {d i j : Nat} (h : Reach E N M d i (j + 1)) : ∃ d', d' ≤ d + 1 ∧ Reach E N M d' i j := by
  obtain ⟨d', h1, h2⟩ := h.flip.less_i j rfl
  exact ⟨d', h1, h2.flip⟩
theorem Reach.inside {N' M' d i j : Nat} (h : Reach E N' M' d i j) : i ≤ N → j ≤ M → Reach E N M d i j := by
  induction h with
  | start => intro _ _; exact .start
  | del _ ih => intro h1 h2; exact (ih (by omega) h2).del
  | ins _ ih => intro h1 h2; exact (ih h1 (by omega)).ins
  | along _ _ _ h3 ih => intro h1 h2; exact (ih (by omega) (by omega)).along (by omega) (by omega) h3
theorem Reach.wider {N' M' d i j : Nat} (h : Reach E N M d i j) (hN : N ≤ N') (hM : M ≤ M') : Reach E N' M' d i j := by
  induction h with
  | start => exact .start
  | del _ ih => exact ih.del
  | ins _ ih => exact ih.ins
  | along _ h1 h2 h3 ih => exact ih.along (by omega) (by omega) h3
theorem Reach.unsuffix {d : Nat} (h : Reach E (N + 1) (M + 1) d (N + 1) (M + 1)) : ∃ d', d' ≤ d ∧ Reach E N M d' N M := by
  cases h with
  | @del d _ _ h =>
    obtain ⟨d', h1, h2⟩ := h.less_j
    exact ⟨d', by omega, h2.inside (Nat.le_refl _) (Nat.le_refl _)⟩
  | @ins d _ _ h =>
    obtain ⟨d', h1, h2⟩ := h.less_i N rfl
    exact ⟨d', by omega, h2.inside (Nat.le_refl _) (Nat.le_refl _)⟩
  | @along _ _ _ h _ _ _ => exact ⟨d, Nat.le_refl _, h.inside (Nat.le_refl _) (Nat.le_refl _)⟩
theorem Reach.unsuffixes : ∀ (m : Nat) {d : Nat}, Reach E (N + m) (M + m) d (N + m) (M + m) → ∃ d', d' ≤ d ∧ Reach E N M d' N M
  | 0, d, h => ⟨d, Nat.le_refl _, h⟩
  | m + 1, d, h => by
    obtain ⟨d1, h1, h2⟩ := Reach.unsuffix (N := N + m) (M := M + m) h
    obtain ⟨d2, h3, h4⟩ := Reach.unsuffixes m h2
    exact ⟨d2, by omega, h4⟩
/-- The fewest steps from one text to another one. -/
def Dist (E : Nat → Nat → Prop) (N M d : Nat) : Prop := Reach E N M d N M ∧ ∀ e, Reach E N M e N M → d ≤ e
theorem Dist.uniq {d e : Nat} (h1 : Dist E N M d) (h2 : Dist E N M e) : d = e := Nat.le_antisymm (h1.2 e h2.1) (h2.2 d h1.1)
theorem Dist.of_none {d : Nat} (h : Reach E N M d N M) (hno : ∀ e, e < d → ¬ Reach E N M e N M) : Dist E N M d := ⟨h, fun e he => Nat.le_of_not_lt fun hlt => hno e hlt he⟩
theorem Dist.exists (E : Nat → Nat → Prop) (N M : Nat) : ∃ d, Dist E N M d := by
  have h : ∀ n, (∃ d, d ≤ n ∧ Reach E N M d N M) → ∃ d, Dist E N M d := by
    intro n
    induction n with
    | zero => rintro ⟨d, h1, h2⟩; exact ⟨d, h2, fun e _ => by omega⟩
    | succ n ih =>
      rintro ⟨d, h1, h2⟩
      by_cases hl : ∃ d, d ≤ n ∧ Reach E N M d N M
      · exact ih hl
      · refine ⟨d, h2, fun e he => ?_⟩
        rcases Nat.lt_or_ge e d with h | h
        · exact absurd ⟨e, by omega, he⟩ hl
        · exact h
  exact h (N + M) ⟨N + M, Nat.le_refl _, Reach.any N M⟩
theorem Dist.flip {d : Nat} (h : Dist E N M d) : Dist (fun a b => E b a) M N d := ⟨h.1.flip, fun e he => h.2 e he.flip⟩
theorem Dist.then {E1 E2 E3 : Nat → Nat → Prop} {N M K d1 d2 d3 : Nat} (hE : ∀ i j k, E1 i j → E2 j k → E3 i k) (h1 : Dist E1 N M d1) (h2 : Dist E2 M K d2) (h3 : Dist E3 N K d3) : d3 ≤ d1 + d2 := by
  obtain ⟨d, h4, h5⟩ := Reach.then hE (N + M + K) d1 d2 N M K (Nat.le_refl _) h1.1 h2.1
  exact Nat.le_trans (h3.2 d h5) h4
theorem Dist.bounds {d : Nat} (h : Dist E N M d) : d ≤ N + M ∧ N ≤ M + d ∧ M ≤ N + d := ⟨h.2 _ (Reach.any N M), h.1.diag.1, h.1.diag.2⟩
theorem Reach.zero {d i j : Nat} (h : Reach E N M d i j) : d = 0 → i = j ∧ ∀ t, t < i → E t t := by
  induction h with
  | start => intro _; exact ⟨rfl, fun t ht => by omega⟩
  | del _ _ => intro h; omega
  | ins _ _ => intro h; omega
  | @along d i j _ _ _ h3 ih =>
    intro h0
    obtain ⟨h1, h2⟩ := ih h0
    refine ⟨by omega, fun t ht => ?_⟩
    by_cases h : t < i
    · exact h2 t h
    · obtain rfl : t = i := by omega
      subst h1
      exact h3
theorem Dist.prefix {e : Nat → Nat → Prop} {n d : Nat} (hn : ∀ t, t < n → e t t) (h : Dist (fun a b => e (n + a) (n + b)) N M d) : Dist e (n + N) (n + M) d := by
  refine ⟨h.1.shift hn, fun f hf => ?_⟩
  obtain ⟨d', h1, h2⟩ := Reach.unshift (N := N) (M := M) rfl rfl hf (by omega) (by omega)
  rw [show n + N - n = N by omega, show n + M - n = M by omega] at h2
  exact Nat.le_trans (h.2 d' h2) h1
theorem Dist.suffix {m d : Nat} (hm : ∀ t, t < m → E (N + t) (M + t)) (h : Dist E N M d) : Dist E (N + m) (M + m) d := by
  refine ⟨(h.1.wider (Nat.le_add_right _ _) (Nat.le_add_right _ _)).alongs m fun t ht => ⟨by omega, by omega, hm t ht⟩, fun f hf => ?_⟩
  obtain ⟨d', h1, h2⟩ := Reach.unsuffixes m hf
  exact Nat.le_trans (h.2 d' h2) h1
theorem Reach.congr {E' : Nat → Nat → Prop} (hE : ∀ i j, i < N → j < M → E i j → E' i j) {d i j : Nat} (h : Reach E N M d i j) : Reach E' N M d i j := by
  induction h with
  | start => exact .start
  | del _ ih => exact ih.del
  | ins _ ih => exact ih.ins
  | along _ h1 h2 h3 ih => exact ih.along h1 h2 (hE _ _ h1 h2 h3)
theorem Dist.congr {E' : Nat → Nat → Prop} (hE : ∀ i j, i < N → j < M → (E i j ↔ E' i j)) {d : Nat} (h : Dist E N M d) : Dist E' N M d :=
  ⟨h.1.congr fun i j h1 h2 h3 => (hE i j h1 h2).1 h3, fun e he => h.2 e (he.congr fun i j h1 h2 h3 => (hE i j h1 h2).2 h3)⟩
theorem lcs_is (e : Nat → Nat → Bool) (N M : Nat) : Dist (fun a b => e a b = true) N M (N + M - 2 * lcs e N M) ∧ 2 * lcs e N M ≤ N + M := ⟨⟨(lcs_dist e N M).2.1, (lcs_dist e N M).2.2⟩, (lcs_dist e N M).1⟩
end Go.Diff
