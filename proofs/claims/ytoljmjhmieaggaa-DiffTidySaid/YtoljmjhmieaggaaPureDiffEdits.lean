/- Edits out of stretches that stand in both texts: what they make, and what they cost; plain lists. -/
import Derived.Test.YtoljmjhmieaggaaEdTheory
import Derived.Test.YtoljmjhmieaggaaMyReach
namespace Go.Proofs.Ytoljmjhmieaggaa.Ed
open Go.Diff
/-- The edits between stretches, from (i, j) on; the last stretch is the ends. -/
def mk (n : Nat) (y : List UInt8) : Nat → Nat → List (Nat × Nat × Nat) → List E
  | _, _, [] => []
  | i, j, (a, b, s) :: l => (if i < a ∨ j < b then [⟨n + i, n + a, (y.drop j).take (b - j)⟩] else []) ++ mk n y (a + s) (b + s) l
theorem app_skip (s : List UInt8) {N i j : Nat} {l : List E} (h : Val N j l) (hij : i ≤ j) : app s i l = (s.drop i).take (j - i) ++ app s j l := by
  cases l with
  | nil =>
    simp only [app]
    rw [show s.drop j = (s.drop i).drop (j - i) by rw [List.drop_drop]; congr 1; omega, List.take_append_drop]
  | cons x l =>
    simp only [app]
    obtain ⟨h1, _⟩ := h
    rw [show s.drop j = (s.drop i).drop (j - i) by rw [List.drop_drop]; congr 1; omega]
    rw [show x.a - i = (j - i) + (x.a - j) by omega, List.take_add]
    simp [List.append_assoc]
section
variable {E' : Nat → Nat → Prop} {N M n : Nat} {y : List UInt8}
theorem mk_val {A : Nat} (hA : n + N ≤ A) (hy : y.length = M) : ∀ {l : List (Nat × Nat × Nat)} {i j : Nat}, Stretches E' N M i j l → Val A (n + i) (mk n y i j (l ++ [(N, M, 0)]))
  | [], i, j, h => by
    obtain ⟨h1, h2⟩ := h
    simp only [List.nil_append, mk]
    split
    · exact ⟨Nat.le_refl _, by show n + i ≤ n + N; omega, by show n + N ≤ A; omega, by show n + N ≤ A; omega⟩
    · show n + i ≤ A; omega
  | (a, b, s) :: l, i, j, h => by
    obtain ⟨h1, h2, h3, h4, h5, h6, h7⟩ := h
    have ih := mk_val hA hy h7
    simp only [List.cons_append, mk]
    split
    · exact ⟨Nat.le_refl _, by show n + i ≤ n + a; omega, by show n + a ≤ A; omega, Val.mono ih (by show n + a ≤ n + (a + s); omega)⟩
    · exact Val.mono ih (by omega)
theorem mk_puts (hy : y.length = M) : ∀ {l : List (Nat × Nat × Nat)} {i j : Nat}, Stretches E' N M i j l → puts (mk n y i j (l ++ [(N, M, 0)])) + total l + j = M ∧ takes (mk n y i j (l ++ [(N, M, 0)])) + total l + i = N
  | [], i, j, h => by
    obtain ⟨h1, h2⟩ := h
    simp only [List.nil_append, mk, total]
    split
    · simp only [List.singleton_append, List.append_nil, puts, takes, List.length_take, List.length_drop]; omega
    · simp only [List.append_nil, puts, takes]; omega
  | (a, b, s) :: l, i, j, h => by
    obtain ⟨h1, h2, h3, h4, h5, h6, h7⟩ := h
    have ih := mk_puts hy h7
    simp only [List.cons_append, mk, total]
    split
    · simp only [List.singleton_append, puts, takes, List.length_take, List.length_drop]; omega
    · simp only [List.nil_append]; omega
theorem mk_length : ∀ (l : List (Nat × Nat × Nat)) (i j : Nat), (mk n y i j l).length ≤ l.length
  | [], _, _ => Nat.le_refl _
  | (a, b, s) :: l, i, j => by
    have := mk_length l (a + s) (b + s)
    simp only [mk, List.length_append, List.length_cons]
    split <;> simp <;> omega
theorem mk_small : ∀ (l : List (Nat × Nat × Nat)) (i j : Nat), ∀ x ∈ mk n y i j l, x.t.length ≤ y.length
  | [], _, _, x, h => by simp [mk] at h
  | (a, b, s) :: l, i, j, x, h => by
    simp only [mk, List.mem_append] at h
    rcases h with h | h
    · split at h
      · simp only [List.mem_singleton] at h
        subst h
        simp only [List.length_take, List.length_drop]
        omega
      · simp at h
    · exact mk_small l _ _ x h
/-- What they make: the other text, and what stands behind both. -/
theorem mk_app {x z s : List UInt8} (hx : x.length = N) (hy : y.length = M) (hs : s.drop n = x ++ z) (hE : ∀ i j, i < N → j < M → E' i j → x[i]? = y[j]?) : ∀ {l : List (Nat × Nat × Nat)} {i j : Nat}, Stretches E' N M i j l → app s (n + i) (mk n y i j (l ++ [(N, M, 0)])) = y.drop j ++ z := by
  have hd : ∀ i, i ≤ N → s.drop (n + i) = x.drop i ++ z := fun i hi => by
    rw [← List.drop_drop, hs, List.drop_append_of_le_length (by omega)]
  have last : ∀ (i j : Nat), i ≤ N → j ≤ M → ∀ (a b : Nat) (r : List E), i ≤ a → j ≤ b → a ≤ N → b ≤ M → Val (n + N + z.length) (n + a) r → app s (n + a) r = y.drop b ++ z → app s (n + i) ((if i < a ∨ j < b then [⟨n + i, n + a, (y.drop j).take (b - j)⟩] else []) ++ r) = y.drop j ++ z := by
    intro i j hi hj a b r h1 h2 h3 h4 hv h
    split
    · simp only [List.singleton_append, app]
      rw [Nat.sub_self, List.take_zero, List.nil_append, h, ← List.append_assoc]
      congr 1
      rw [show y.drop b = (y.drop j).drop (b - j) by rw [List.drop_drop]; congr 1; omega, List.take_append_drop]
    · have e1 : a = i := by omega
      have e2 : b = j := by omega
      rw [List.nil_append, ← e1, h, e2]
  intro l
  induction l with
  | nil =>
    intro i j h
    obtain ⟨h1, h2⟩ := h
    simp only [List.nil_append, mk]
    refine last i j h1 h2 N M [] h1 h2 (Nat.le_refl _) (Nat.le_refl _) (by show n + N ≤ _; omega) ?_
    show s.drop (n + N) = _
    rw [hd N (Nat.le_refl _), List.drop_of_length_le (by omega), List.drop_of_length_le (by omega)]
  | cons t l ih =>
    obtain ⟨a, b, st⟩ := t
    intro i j h
    obtain ⟨h1, h2, h3, h4, h5, h6, h7⟩ := h
    have ih := ih h7
    have hv := mk_val (n := n) (y := y) (A := n + N + z.length) (by omega) hy h7
    simp only [List.cons_append, mk]
    refine last i j (by omega) (by omega) a b _ h1 h2 (by omega) (by omega) (Val.mono hv (by omega)) ?_
    rw [app_skip s hv (by omega), ih, hd a (by omega), ← List.append_assoc]
    congr 1
    have e : (x.drop a ++ z).take (n + (a + st) - (n + a)) = (y.drop b).take st := by
      rw [show n + (a + st) - (n + a) = st by omega, List.take_append_of_le_length (by rw [List.length_drop]; omega)]
      refine List.ext_getElem? fun q => ?_
      rw [List.getElem?_take, List.getElem?_take]
      by_cases hq : q < st
      · rw [if_pos hq, if_pos hq, List.getElem?_drop, List.getElem?_drop]
        exact hE _ _ (by omega) (by omega) (h6 q hq)
      · rw [if_neg hq, if_neg hq]
    rw [e, show y.drop (b + st) = (y.drop b).drop st by rw [List.drop_drop], List.take_append_drop]
/-- Each changes something, and between two of them something stands. -/
def Tidy' : Nat → List E → Prop
  | _, [] => True
  | i, x :: l => i < x.a ∧ (x.a < x.b ∨ 0 < x.t.length) ∧ Tidy' x.b l
theorem Tidy'.lower {l : List E} {i j : Nat} (h : Tidy' i l) (hj : j ≤ i) : Tidy' j l := by
  cases l with
  | nil => trivial
  | cons x l => exact ⟨Nat.lt_of_le_of_lt hj h.1, h.2⟩
theorem mk_tidy (hy : y.length = M) : ∀ {l : List (Nat × Nat × Nat)} {i j : Nat}, Stretches E' N M i j l → ∀ w, w < n + i → Tidy' w (mk n y i j (l ++ [(N, M, 0)]))
  | [], i, j, h, w, hw => by
    obtain ⟨h1, h2⟩ := h
    simp only [List.nil_append, mk]
    split
    · rename_i hc
      refine ⟨hw, ?_, trivial⟩
      simp only [List.length_take, List.length_drop]
      omega
    · trivial
  | (a, b, s) :: l, i, j, h, w, hw => by
    obtain ⟨h1, h2, h3, h4, h5, h6, h7⟩ := h
    have ih := mk_tidy hy h7
    simp only [List.cons_append, mk]
    split
    · rename_i hc
      refine ⟨hw, ?_, ih (n + a) (by omega)⟩
      simp only [List.length_take, List.length_drop]
      omega
    · exact ih w (by omega)
end
end Go.Proofs.Ytoljmjhmieaggaa.Ed
