/- A text's lines and places, byte by byte; without any program; no condition beyond those named. -/
import Derived.Test.YtimhbepecnmjeaaDoorLinesTheory2
namespace Go.Proofs.YtimhbepecnmjeaaDoor.Li
set_option linter.unusedVariables false
set_option linter.unusedSimpArgs false
theorem lcN_snoc (c : UInt8) : ∀ (l : List UInt8) (p : Nat × Nat), lcN p (l ++ [c]) = if c = 10 then ((lcN p l).1 + 1, 1) else ((lcN p l).1, (lcN p l).2 + 1)
  | [], p => rfl
  | d :: l, p => by
    rw [List.cons_append, lcN, lcN]
    by_cases h : d = 10
    · rw [if_pos h, if_pos h]; exact lcN_snoc c l _
    · rw [if_neg h, if_neg h]; exact lcN_snoc c l _
theorem plN_zero (l : List UInt8) : plN l 0 = (1, 1) := rfl
theorem plN_succ {l : List UInt8} {i : Nat} (h : i < l.length) : plN l (i + 1) = if l[i] = 10 then ((plN l i).1 + 1, 1) else ((plN l i).1, (plN l i).2 + 1) := by
  rw [plN, List.take_succ_eq_append_getElem h, lcN_snoc]
  rfl
theorem cn_succ {l : List UInt8} {i : Nat} (h : i < l.length) : cnN l (i + 1) = if l[i] = 10 then cnN l i + 1 else cnN l i := by
  have a := plN_succ h
  rw [plN_eq (by omega), plN_eq (by omega)] at a
  have b := congrArg Prod.fst a
  dsimp only at b
  rw [b]
  by_cases c : l[i] = 10
  · rw [if_pos c, if_pos c]
  · rw [if_neg c, if_neg c]
theorem sN_newline {l : List UInt8} {i : Nat} (h : i < l.length) (hc : l[i] = 10) : sN l (cnN l i) = i + 1 ∧ cnN l i < (ssN l).length := by
  have a := plN_succ h
  have e := cn_succ h
  rw [if_pos hc] at a e
  rw [plN_eq (by omega), plN_eq (by omega), e] at a
  have b := congrArg Prod.snd a
  dsimp only at b
  rw [Nat.add_sub_cancel] at b
  have hl := @cnN_le l (i + 1)
  have hlt : cnN l i < (ssN l).length := by omega
  have h1 := (cnN_iff (k := i + 1) hlt).2 (by omega)
  exact ⟨by omega, hlt⟩
theorem cnN_zero (l : List UInt8) : cnN l 0 = 1 := by
  have a := plN_eq (l := l) (k := 0) (Nat.zero_le _)
  rw [plN_zero] at a
  exact (congrArg Prod.fst a).symm
theorem cnN_end (l : List UInt8) : cnN l l.length = (ssN l).length := by
  have a := @cnN_le l l.length
  have b := ssN_pos l
  have h := (cnN_iff (l := l) (k := l.length) (j := (ssN l).length - 1) (by omega)).1 (sN_le _)
  omega
theorem cnN_sN {l : List UInt8} {j : Nat} (h : j < (ssN l).length) : cnN l (sN l j) = j + 1 :=
  at_line (sN_le j) h (Nat.le_refl _) (sN_toN h)
/-- Ahead of a line that isn't the first stands a line end. -/
theorem end_before {l : List UInt8} {j : Nat} (h : j + 1 < (ssN l).length) : ∃ h2 : sN l (j + 1) - 1 < l.length, l[sN l (j + 1) - 1] = 10 := by
  have h0 := sN_lt (l := l) (i := j) (j := j + 1) (by omega) h
  have h1 := sN_le (l := l) (j + 1)
  have h2 : sN l (j + 1) - 1 < l.length := by omega
  refine ⟨h2, ?_⟩
  have a := cn_succ h2
  have e : sN l (j + 1) - 1 + 1 = sN l (j + 1) := by omega
  rw [e, cnN_sN h] at a
  have b := at_line (l := l) (k := sN l (j + 1) - 1) (j := j) (by omega) (by omega) (by omega) (by rw [toN, if_pos h]; exact Nat.le_refl _)
  rw [b] at a
  by_cases c : l[sN l (j + 1) - 1] = 10
  · exact c
  · rw [if_neg c] at a; omega
/-- Within a line there is no line end. -/
theorem no_end {l : List UInt8} {j k : Nat} (h : j < (ssN l).length) (h1 : sN l j ≤ k) (h2 : k < toN l j) : ∃ h3 : k < l.length, l[k] ≠ 10 := by
  have hk : k < l.length := Nat.lt_of_lt_of_le h2 (toN_le j)
  refine ⟨hk, fun hc => ?_⟩
  have a := cn_succ hk
  rw [if_pos hc, at_line (by omega) h h1 (by omega), at_line (by omega) h (by omega) (by omega)] at a
  omega
/-- Behind a line's last byte. -/
def nxN (l : List UInt8) (j : Nat) : Nat := if j + 1 < (ssN l).length then sN l (j + 1) else l.length
/-- A line, with its end. -/
def rawN (l : List UInt8) (j : Nat) : List UInt8 := (l.take (nxN l j)).drop (sN l j)
/-- A line, without its end. -/
def bareN (l : List UInt8) (j : Nat) : List UInt8 := (l.take (enN l j)).drop (sN l j)
theorem nxN_le {l : List UInt8} (j : Nat) : nxN l j ≤ l.length := by
  rw [nxN]; split
  · exact sN_le _
  · exact Nat.le_refl _
theorem sN_nxN {l : List UInt8} {j : Nat} (h : j < (ssN l).length) : sN l j ≤ nxN l j := by
  rw [nxN]; split
  · rename_i h1; exact Nat.le_of_lt (sN_lt (by omega) h1)
  · exact sN_le _
theorem rawN_len {l : List UInt8} {j : Nat} (h : j < (ssN l).length) : (rawN l j).length = nxN l j - sN l j := by
  rw [rawN, List.length_drop, List.length_take, Nat.min_eq_left (nxN_le j)]
theorem bareN_len {l : List UInt8} {j : Nat} (h : j < (ssN l).length) : (bareN l j).length = enN l j - sN l j := by
  rw [bareN, List.length_drop, List.length_take, Nat.min_eq_left]
  exact Nat.le_trans (enN_toN j) (toN_le j)
theorem rawN_get {l : List UInt8} {j i : Nat} (h : j < (ssN l).length) (hi : i < nxN l j - sN l j) : ∃ h2 : sN l j + i < l.length, (rawN l j)[i]? = some l[sN l j + i] := by
  have a := nxN_le (l := l) j
  have h2 : sN l j + i < l.length := by omega
  refine ⟨h2, ?_⟩
  rw [rawN, List.getElem?_drop, List.getElem?_take, if_pos (by omega), List.getElem?_eq_getElem h2]
/-- A line without its end, out of one with it. -/
def bareL (l : List UInt8) : List UInt8 :=
  if l.length = 0 ∨ l.getD (l.length - 1) 0 ≠ 10 then l else if l.length > 1 ∧ l.getD (l.length - 2) 0 = 13 then l.take (l.length - 2) else l.take (l.length - 1)
theorem bareL_raw {l : List UInt8} {j : Nat} (h : j < (ssN l).length) : bareL (rawN l j) = bareN l j := by
  have hl := rawN_len h
  have hs := sN_nxN h
  have hn := nxN_le (l := l) j
  rw [bareL]
  by_cases h1 : j + 1 < (ssN l).length
  · obtain ⟨h2, h3⟩ := end_before h1
    have hlt := sN_lt (l := l) (i := j) (j := j + 1) (by omega) h1
    have e : nxN l j = sN l (j + 1) := by rw [nxN, if_pos h1]
    have g1 : (rawN l j).getD ((rawN l j).length - 1) 0 = 10 := by
      obtain ⟨h4, h5⟩ := rawN_get h (i := (rawN l j).length - 1) (by omega)
      rw [List.getD_eq_getElem?_getD, h5, Option.getD_some]
      have e2 : sN l j + ((rawN l j).length - 1) = sN l (j + 1) - 1 := by omega
      simp only [e2]
      exact h3
    rw [if_neg (by rintro (h6 | h6); (omega); (exact h6 g1))]
    rw [bareN, enN, if_pos h1]
    by_cases h7 : sN l j < sN l (j + 1) - 1
    · obtain ⟨h4, h5⟩ := rawN_get h (i := (rawN l j).length - 2) (by omega)
      have e2 : sN l j + ((rawN l j).length - 2) = sN l (j + 1) - 1 - 1 := by omega
      have e3 : (rawN l j).getD ((rawN l j).length - 2) 0 = l.getD (sN l (j + 1) - 1 - 1) 0 := by
        rw [List.getD_eq_getElem?_getD, h5, Option.getD_some, List.getD_eq_getElem?_getD, List.getElem?_eq_getElem (by omega), Option.getD_some]
        simp only [e2]
      rw [e3]
      by_cases h8 : l.getD (sN l (j + 1) - 1 - 1) 0 = 13
      · rw [if_pos ⟨by omega, h8⟩, if_pos ⟨h7, h8⟩, hl, rawN, e]
        rw [List.take_drop, List.take_take]
        congr 2
        omega
      · rw [if_neg (fun h9 => h8 h9.2), if_neg (fun h9 => h8 h9.2), hl, rawN, e, List.take_drop, List.take_take]
        congr 2
        omega
    · rw [if_neg (fun h9 => by omega), if_neg (fun h9 => h7 h9.1), hl, rawN, e, List.take_drop, List.take_take]
      congr 2
      omega
  · have e : nxN l j = l.length := by rw [nxN, if_neg h1]
    rw [if_pos]
    · rw [rawN, bareN, enN, if_neg h1, e]
    · by_cases h0 : (rawN l j).length = 0
      · exact .inl h0
      · right
        obtain ⟨h4, h5⟩ := rawN_get h (i := (rawN l j).length - 1) (by omega)
        rw [List.getD_eq_getElem?_getD, h5, Option.getD_some]
        exact (no_end h (k := sN l j + ((rawN l j).length - 1)) (by omega) (by rw [toN, if_neg h1]; omega)).2
/-- All lines, with their ends. -/
def rawsN (l : List UInt8) : List (List UInt8) := (List.range (ssN l).length).map (rawN l)
theorem raws_sum {l : List UInt8} : ∀ k, k < (ssN l).length → (((rawsN l).take k).map List.length).sum = sN l k
  | 0, _ => rfl
  | k + 1, h => by
    have ih := raws_sum (l := l) k (by omega)
    have hk : k < (rawsN l).length := by rw [rawsN, List.length_map, List.length_range]; omega
    rw [List.take_succ_eq_append_getElem hk, List.map_append, List.sum_append, ih]
    have e : (rawsN l)[k] = rawN l k := by simp [rawsN]
    rw [e]
    have := rawN_len (l := l) (j := k) (by omega)
    have hlt := sN_lt (l := l) (i := k) (j := k + 1) (by omega) h
    rw [nxN, if_pos h] at this
    simp
    omega
end Go.Proofs.YtimhbepecnmjeaaDoor.Li
