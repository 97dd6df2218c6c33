/- Where the lines of a text begin, and the place of a byte, as lists; without any program; no condition beyond those named. -/
import Derived.RowKit
namespace Go.Proofs.YtimhbepecnmjeaaDoor.Li
set_option linter.unusedVariables false
set_option linter.unusedSimpArgs false
/-- Behind each line end a line begins. -/
def stN : Nat → List UInt8 → List Nat
  | _, [] => []
  | i, c :: l => if c = 10 then (i + 1) :: stN (i + 1) l else stN (i + 1) l
/-- A line and a column, byte by byte. -/
def lcN : Nat × Nat → List UInt8 → Nat × Nat
  | p, [] => p
  | p, c :: l => if c = 10 then lcN (p.1 + 1, 1) l else lcN (p.1, p.2 + 1) l
theorem stN_gt : ∀ (l : List UInt8) (i x : Nat), x ∈ stN i l → i < x ∧ x ≤ i + l.length
  | [], _, _, h => by simp [stN] at h
  | c :: l, i, x, h => by
    rw [stN] at h
    have ih := stN_gt l (i + 1) x
    rw [List.length_cons]
    by_cases hc : c = 10
    · rw [if_pos hc, List.mem_cons] at h
      rcases h with h | h
      · omega
      · have := ih h
        omega
    · rw [if_neg hc] at h
      have := ih h
      omega
theorem stN_count0 (l : List UInt8) (i : Nat) : (stN i l).countP (fun x => decide (x ≤ i)) = 0 := by
  rw [List.countP_eq_zero]
  intro x hx h
  have := stN_gt l i x hx
  have h' := of_decide_eq_true h
  omega
/-- The place of a byte, by how many lines begin there or ahead of it. -/
theorem place : ∀ (l : List UInt8) (i s m k : Nat), s ≤ i → k ≤ l.length →
    lcN (m, i - s + 1) (l.take k) = (m + (stN i l).countP (fun x => decide (x ≤ i + k)), i + k - (s :: stN i l)[(stN i l).countP (fun x => decide (x ≤ i + k))]'(by rw [List.length_cons]; exact Nat.lt_succ_of_le List.countP_le_length) + 1)
  | [], i, s, m, k, h1, h2 => by
    have : k = 0 := by simpa using h2
    subst this
    simp [lcN, stN]
  | c :: l, i, s, m, 0, h1, h2 => by
    have h0 := stN_count0 (c :: l) i
    simp only [Nat.add_zero, List.take_zero, lcN]
    simp only [h0]
    rfl
  | c :: l, i, s, m, k + 1, h1, h2 => by
    rw [List.length_cons] at h2
    rw [List.take_succ_cons, lcN]
    by_cases hc : c = 10
    · rw [if_pos hc]
      have ih := place l (i + 1) (i + 1) (m + 1) k (Nat.le_refl _) (by omega)
      rw [Nat.sub_self] at ih
      have e : stN i (c :: l) = (i + 1) :: stN (i + 1) l := by rw [stN, if_pos hc]
      have ek : i + (k + 1) = i + 1 + k := by omega
      have ec : ((i + 1) :: stN (i + 1) l).countP (fun x => decide (x ≤ i + 1 + k)) = (stN (i + 1) l).countP (fun x => decide (x ≤ i + 1 + k)) + 1 := List.countP_cons_of_pos (by simp)
      simp only [e, ek, ec, List.getElem_cons_succ]
      refine ih.trans (Prod.ext ?_ rfl)
      show m + 1 + _ = m + (_ + 1)
      omega
    · rw [if_neg hc]
      have ih := place l (i + 1) s m k (by omega) (by omega)
      have e : stN i (c :: l) = stN (i + 1) l := by rw [stN, if_neg hc]
      have ek : i + (k + 1) = i + 1 + k := by omega
      simp only [e, ek]
      rw [show i - s + 1 + 1 = i + 1 - s + 1 by omega]
      exact ih
theorem stN_snoc (c : UInt8) : ∀ (l : List UInt8) (i : Nat), stN i (l ++ [c]) = stN i l ++ if c = 10 then [i + l.length + 1] else []
  | [], i => by simp [stN]
  | d :: l, i => by
    have ih := stN_snoc c l (i + 1)
    rw [List.cons_append, stN, stN, ih, List.length_cons, show i + 1 + l.length + 1 = i + (l.length + 1) + 1 by omega]
    by_cases h : d = 10
    · rw [if_pos h, if_pos h, List.cons_append]
    · rw [if_neg h, if_neg h]
end Go.Proofs.YtimhbepecnmjeaaDoor.Li
