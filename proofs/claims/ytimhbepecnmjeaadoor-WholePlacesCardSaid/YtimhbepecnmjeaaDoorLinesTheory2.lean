/- Where each line begins and ends, and which byte has which place, as lists; without any program; no condition beyond those named. -/
import Derived.Test.YtimhbepecnmjeaaDoorLinesTheory
namespace Go.Proofs.YtimhbepecnmjeaaDoor.Li
set_option linter.unusedVariables false
set_option linter.unusedSimpArgs false
/-- Where the lines begin. -/
def ssN (l : List UInt8) : List Nat := 0 :: stN 0 l
theorem stN_sorted : ∀ (l : List UInt8) (i : Nat), (stN i l).Pairwise (· < ·)
  | [], _ => by simp [stN]
  | c :: l, i => by
    rw [stN]
    by_cases h : c = 10
    · rw [if_pos h, List.pairwise_cons]
      exact ⟨fun x hx => (stN_gt l (i + 1) x hx).1, stN_sorted l (i + 1)⟩
    · rw [if_neg h]
      exact stN_sorted l (i + 1)
theorem ssN_sorted (l : List UInt8) : (ssN l).Pairwise (· < ·) := by
  rw [ssN, List.pairwise_cons]
  exact ⟨fun x hx => (stN_gt l 0 x hx).1, stN_sorted l 0⟩
theorem ssN_le (l : List UInt8) {x : Nat} (hx : x ∈ ssN l) : x ≤ l.length := by
  rw [ssN, List.mem_cons] at hx
  rcases hx with rfl | hx
  · omega
  · have := stN_gt l 0 x hx
    omega
theorem ssN_len (l : List UInt8) : (ssN l).length ≤ l.length + 1 := by
  have : ∀ (l : List UInt8) (i : Nat), (stN i l).length ≤ l.length := by
    intro l
    induction l with
    | nil => intro i; simp [stN]
    | cons c l ih =>
      intro i
      rw [stN]
      have := ih (i + 1)
      by_cases h : c = 10
      · rw [if_pos h]; simp; omega
      · rw [if_neg h]; simp; omega
  have := this l 0
  rw [ssN, List.length_cons]
  omega
theorem ssN_pos (l : List UInt8) : 0 < (ssN l).length := by rw [ssN]; simp
/-- The beginning of a line, by its number less one. -/
def sN (l : List UInt8) (j : Nat) : Nat := (ssN l).getD j 0
theorem sN_eq {l : List UInt8} {j : Nat} (h : j < (ssN l).length) : sN l j = (ssN l)[j] := by rw [sN, List.getD_eq_getElem?_getD, List.getElem?_eq_getElem h, Option.getD_some]
theorem sN_lt {l : List UInt8} {i j : Nat} (hij : i < j) (h : j < (ssN l).length) : sN l i < sN l j := by
  rw [sN_eq h, sN_eq (by omega)]
  exact List.pairwise_iff_getElem.1 (ssN_sorted l) i j (by omega) h hij
theorem sN_mono {l : List UInt8} {i j : Nat} (hij : i ≤ j) (h : j < (ssN l).length) : sN l i ≤ sN l j := by
  rcases Nat.lt_or_eq_of_le hij with h1 | h1
  · exact Nat.le_of_lt (sN_lt h1 h)
  · rw [h1]; exact Nat.le_refl _
theorem sN_zero (l : List UInt8) : sN l 0 = 0 := rfl
theorem sN_le {l : List UInt8} (j : Nat) : sN l j ≤ l.length := by
  rcases Nat.lt_or_ge j (ssN l).length with h | h
  · rw [sN_eq h]; exact ssN_le l (List.getElem_mem h)
  · rw [sN, List.getD_eq_getElem?_getD, List.getElem?_eq_none h]; exact Nat.zero_le _
/-- The last byte of a line's end. -/
def toN (l : List UInt8) (j : Nat) : Nat := if j + 1 < (ssN l).length then sN l (j + 1) - 1 else l.length
/-- The end of a line, without its end. -/
def enN (l : List UInt8) (j : Nat) : Nat := if j + 1 < (ssN l).length then (if sN l j < sN l (j + 1) - 1 ∧ l.getD (sN l (j + 1) - 1 - 1) 0 = 13 then sN l (j + 1) - 1 - 1 else sN l (j + 1) - 1) else l.length
/-- The place of a byte. -/
def plN (l : List UInt8) (k : Nat) : Nat × Nat := lcN (1, 1) (l.take k)
/-- How many lines begin at a byte or ahead of it. -/
def cnN (l : List UInt8) (k : Nat) : Nat := (ssN l).countP (fun x => decide (x ≤ k))
theorem cnN_eq (l : List UInt8) (k : Nat) : cnN l k = (stN 0 l).countP (fun x => decide (x ≤ k)) + 1 := by
  rw [cnN, ssN, List.countP_cons_of_pos (by simp)]
theorem countP_le_sorted : ∀ (s : List Nat) (k : Nat), s.Pairwise (· < ·) → ∀ j (h : j < s.length), (s[j] ≤ k ↔ j < s.countP (fun x => decide (x ≤ k)))
  | [], _, _, _, h => by simp at h
  | x :: s, k, hs, j, h => by
    rw [List.pairwise_cons] at hs
    by_cases hx : x ≤ k
    · rw [List.countP_cons_of_pos (by simpa using hx)]
      match j, h with
      | 0, h => simp [hx]
      | j + 1, h =>
        have ih := countP_le_sorted s k hs.2 j (by simpa using h)
        rw [List.getElem_cons_succ, ih]
        omega
    · have h0 : (x :: s).countP (fun x => decide (x ≤ k)) = 0 := by
        rw [List.countP_eq_zero]
        intro y hy
        rw [List.mem_cons] at hy
        rcases hy with rfl | hy
        · simpa using hx
        · have := hs.1 y hy
          simp
          omega
      rw [h0]
      match j, h with
      | 0, h => simp [hx]
      | j + 1, h =>
        have := hs.1 (s[j]'(by simpa using h)) (List.getElem_mem _)
        rw [List.getElem_cons_succ]
        omega
theorem cnN_le {l : List UInt8} {k : Nat} : cnN l k ≤ (ssN l).length := List.countP_le_length
theorem cnN_pos {l : List UInt8} {k : Nat} : 0 < cnN l k := by rw [cnN_eq]; omega
theorem cnN_iff {l : List UInt8} {k j : Nat} (h : j < (ssN l).length) : sN l j ≤ k ↔ j < cnN l k := by
  rw [sN_eq h]
  exact countP_le_sorted (ssN l) k (ssN_sorted l) j h
/-- The place of a byte, by the table. -/
theorem plN_eq {l : List UInt8} {k : Nat} (hk : k ≤ l.length) : plN l k = (cnN l k, k - sN l (cnN l k - 1) + 1) := by
  have h := place l 0 0 1 k (Nat.le_refl _) hk
  have e := cnN_eq l k
  have e1 : 0 - 0 + 1 = 1 := rfl
  rw [e1] at h
  simp only [Nat.zero_add] at h
  have hlt : cnN l k - 1 < (ssN l).length := by have := @cnN_le l k; have := @cnN_pos l k; omega
  rw [plN, h, sN_eq hlt]
  have e2 : cnN l k - 1 = (stN 0 l).countP (fun x => decide (x ≤ k)) := by omega
  refine Prod.ext ?_ ?_
  · show 1 + _ = cnN l k
    omega
  · simp only [e2]
    rfl
theorem at_line {l : List UInt8} {k j : Nat} (hk : k ≤ l.length) (hj : j < (ssN l).length) (h1 : sN l j ≤ k) (h2 : k ≤ toN l j) : cnN l k = j + 1 := by
  have a := (cnN_iff hj).1 h1
  have b := @cnN_le l k
  rcases Nat.lt_or_ge (j + 1) (cnN l k) with h | h
  · have c := (cnN_iff (l := l) (k := k) (j := j + 1) (by omega)).2 h
    rw [toN, if_pos (by omega)] at h2
    have := sN_lt (l := l) (i := j) (j := j + 1) (by omega) (by omega)
    omega
  · omega
theorem plN_line {l : List UInt8} {k j : Nat} (hk : k ≤ l.length) (hj : j < (ssN l).length) (h1 : sN l j ≤ k) (h2 : k ≤ toN l j) : plN l k = (j + 1, k - sN l j + 1) := by
  rw [plN_eq hk, at_line hk hj h1 h2]
  rfl
theorem cn_line {l : List UInt8} {k : Nat} (hk : k ≤ l.length) : cnN l k - 1 < (ssN l).length ∧ sN l (cnN l k - 1) ≤ k ∧ k ≤ toN l (cnN l k - 1) := by
  have a := @cnN_le l k
  have b := @cnN_pos l k
  have h : cnN l k - 1 < (ssN l).length := by omega
  refine ⟨h, (cnN_iff h).2 (by omega), ?_⟩
  rw [toN]
  by_cases h1 : cnN l k - 1 + 1 < (ssN l).length
  · rw [if_pos h1]
    have := (cnN_iff (l := l) (k := k) h1)
    omega
  · rw [if_neg h1]; exact hk
theorem toN_le {l : List UInt8} (j : Nat) : toN l j ≤ l.length := by
  rw [toN]
  split
  · have := sN_le (l := l) (j + 1); omega
  · exact Nat.le_refl _
theorem sN_toN {l : List UInt8} {j : Nat} (h : j < (ssN l).length) : sN l j ≤ toN l j := by
  rw [toN]
  split
  · rename_i h1
    have := sN_lt (l := l) (i := j) (j := j + 1) (by omega) h1
    omega
  · exact sN_le j
theorem enN_toN {l : List UInt8} (j : Nat) : enN l j ≤ toN l j := by
  rw [enN, toN]
  split
  · split <;> omega
  · exact Nat.le_refl _
theorem sN_enN {l : List UInt8} {j : Nat} (h : j < (ssN l).length) : sN l j ≤ enN l j := by
  rw [enN]
  split
  · rename_i h1
    have := sN_lt (l := l) (i := j) (j := j + 1) (by omega) h1
    split <;> omega
  · exact sN_le j
end Go.Proofs.YtimhbepecnmjeaaDoor.Li
