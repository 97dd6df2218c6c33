/- The lines of a text as spans, and what lies between them; texts as long as named. -/
import Derived.Test.YtimhbepecnmjeaaDoorRefSpan
import Derived.Test.YtimhbepecnmjeaaDoorRefLines
namespace Go.Proofs.YtimhbepecnmjeaaDoor.Sp
open Go.RowKit Go.Proofs.YtimhbepecnmjeaaDoor.X Go.Proofs.YtimhbepecnmjeaaDoorW.PrintWords Go.Proofs.YtimhbepecnmjeaaDoorW.PrintLast Go.Proofs.YtimhbepecnmjeaaDoor.Li
set_option linter.unusedVariables false
set_option linter.unusedSimpArgs false
/-- How many bytes some spans have. -/
def sumI : List S24 → Int
  | [] => 0
  | x :: l => (x.f1 - x.f0) + sumI l
theorem sumI_append : ∀ a b : List S24, sumI (a ++ b) = sumI a + sumI b
  | [], b => by simp [sumI]
  | x :: a, b => by rw [List.cons_append, sumI, sumI, sumI_append a b]; omega
theorem sumI_range : ∀ (l : List S24), l.all okB = true → 0 ≤ sumI l ∧ sumI l ≤ 65536 * l.length
  | [], _ => by simp [sumI]
  | x :: l, h => by
    rw [List.all_cons, Bool.and_eq_true] at h
    have h1 := okS_iff.1 h.1
    have h2 := sumI_range l h.2
    rw [sumI, List.length_cons]
    omega
theorem sum_any (l : List S24) (hl : l.length ≤ 100000) (hok : l.all okB = true) : Ev (fun k => span_Sum.f k l) (sumI l) := by
  have hall : ∀ i (h : i < l.length), okB l[i] = true := fun i h => List.all_eq_true.1 hok _ (List.getElem_mem h)
  have key : ∀ (d i : Nat), l.length - i = d → i ≤ l.length → Ev (fun k => span_Sum.l0 k (sumI (l.take i)) l (l.length : Int) (i : Int)) (sumI l) := by
    intro d
    induction d with
    | zero =>
      intro i h1 h2
      refine Ev.step (fun k => by rw [span_Sum.l0]) (Ev.neg (by omega) (Ev.eq ?_))
      rw [List.take_of_length_le (by omega)]
    | succ d ih =>
      intro i h1 h2
      have hi : i < l.length := by omega
      have h3 := ih (i + 1) (by omega) (by omega)
      have ho := okS_iff.1 (hall i hi)
      have hr := sumI_range (l.take i) (List.all_eq_true.2 (fun x hx => List.all_eq_true.1 hok x (List.mem_of_mem_take hx)))
      have hlt : (l.take i).length ≤ l.length := by rw [List.length_take]; omega
      rw [List.take_succ_eq_append_getElem hi, sumI_append, sumI, sumI] at h3
      refine Ev.step (fun k => by rw [span_Sum.l0]) (Ev.pos (by omega) (Ev.pos (by omega) (Ev.pos (by omega) ?_)))
      rw [rd24_lt hi, wrap_succ (i := i) (n := l.length) (by omega) (by omega)]
      refine Ev.bind (len_any _ _) ?_
      have e : lenS l[i].f0 l[i].f1 = l[i].f1 - l[i].f0 := by unfold lenS; exact if_pos (hall i hi)
      rw [e, wrap_id (by omega) (by omega)]
      rw [Int.add_zero] at h3
      exact h3
  unfold span_Sum.f
  exact key _ 0 rfl (by omega)
/-- A line as a span. -/
def spJ (l : List UInt8) (j : Nat) : S24 := ⟨(sN l j : Int), (enN l j : Int)⟩
/-- What lies behind a line. -/
def gpJ (l : List UInt8) (j : Nat) : S24 := ⟨(enN l j : Int), (sN l (j + 1) : Int)⟩
theorem en_lt {l : List UInt8} {j : Nat} (h : j + 1 < (ssN l).length) : enN l j < sN l (j + 1) := by
  have := sN_lt (l := l) (i := j) (j := j + 1) (by omega) h
  rw [enN, if_pos h]
  split <;> omega
theorem en_last {l : List UInt8} {j : Nat} (h : ¬ j + 1 < (ssN l).length) : enN l j = l.length := by rw [enN, if_neg h]
theorem sp_ok {l : List UInt8} (hl : l.length ≤ 65536) {j : Nat} (h : j < (ssN l).length) : okG (l.length : Int) (spJ l j) = true := by
  rw [okG_iff]
  have h1 := sN_enN h
  have h2 := Nat.le_trans (enN_toN (l := l) j) (toN_le j)
  unfold spJ
  dsimp only
  omega
theorem gp_ok {l : List UInt8} (hl : l.length ≤ 65536) {j : Nat} (h : j + 1 < (ssN l).length) : okB (gpJ l j) = true := by
  unfold okB
  rw [okS_iff]
  have h1 := en_lt h
  have h2 := sN_le (l := l) (j + 1)
  unfold gpJ
  dsimp only
  omega
theorem gaps_from {l : List UInt8} : ∀ (c j : Nat), j + c + 1 = (ssN l).length → gapL (enN l j : Int) ((List.range' (j + 1) c).map (spJ l) ++ [⟨(l.length : Int), (l.length : Int)⟩]) = (List.range' j c).map (gpJ l)
  | 0, j, h => by
    have e := en_last (l := l) (j := j) (by omega)
    simp [gapL, e]
  | c + 1, j, h => by
    have ih := gaps_from (l := l) c (j + 1) (by omega)
    have hlt := en_lt (l := l) (j := j) (by omega)
    rw [List.range'_succ, List.range'_succ, List.map_cons, List.cons_append, gapL, List.map_cons]
    rw [show (spJ l (j + 1)).f1 = (enN l (j + 1) : Int) from rfl, ih, if_pos (show (enN l j : Int) < (spJ l (j + 1)).f0 by show (enN l j : Int) < (sN l (j + 1) : Int); omega)]
    rfl
/-- All lines as spans. -/
def spL (l : List UInt8) : List S24 := (List.range (ssN l).length).map (spJ l)
/-- All that lies between. -/
def gpL (l : List UInt8) : List S24 := (List.range ((ssN l).length - 1)).map (gpJ l)
theorem gaps_lines (l : List UInt8) : gapL 0 (spL l ++ [⟨(l.length : Int), (l.length : Int)⟩]) = gpL l := by
  obtain ⟨c, hc⟩ : ∃ c, (ssN l).length = c + 1 := ⟨(ssN l).length - 1, by have := ssN_pos l; omega⟩
  have h := gaps_from (l := l) c 0 (by omega)
  rw [spL, gpL, hc, Nat.add_sub_cancel, List.range_eq_range', List.range_eq_range', List.range'_succ, List.map_cons, List.cons_append, gapL]
  rw [show (spJ l 0).f1 = (enN l 0 : Int) from rfl, h, if_neg (show ¬ (0 : Int) < (spJ l 0).f0 by show ¬ (0 : Int) < ((sN l 0 : Nat) : Int); rw [sN_zero]; omega)]
  rfl
theorem ord_lines {l : List UInt8} : ∀ (c j : Nat), j + c ≤ (ssN l).length → ordL ((List.range' j c).map (spJ l)) = true
  | 0, j, h => rfl
  | 1, j, h => rfl
  | c + 2, j, h => by
    have ih := ord_lines (l := l) (c + 1) (j + 1) (by omega)
    have h1 := en_lt (l := l) (j := j) (by omega)
    have h2 := sN_enN (l := l) (j := j) (by omega)
    rw [List.range'_succ, List.map_cons, List.range'_succ, List.map_cons, ordL_two, ← List.map_cons, ← List.range'_succ, ih, Bool.and_true]
    unfold ordG spJ
    dsimp only
    rw [Bool.and_eq_true, decide_eq_true_iff, Bool.not_eq_true', Bool.and_eq_false_iff, Bool.and_eq_false_iff, beq_eq_false_iff_ne, beq_eq_false_iff_ne, beq_eq_false_iff_ne]
    omega
theorem gaps_ev (l : List UInt8) (hl : l.length ≤ 65536) : Ev (fun k => span_Gaps.f k (l.length : Int) (spL l)) (gpL l, 0) := by
  have hN := ssN_len l
  have h := gaps_any (l.length : Int) (by omega) (by omega) (spL l) (by rw [spL, List.length_map, List.length_range]; omega)
  have e : gapsV (l.length : Int) (spL l) = (gpL l, 0) := by
    unfold gapsV
    rw [if_pos, if_pos, gaps_lines]
    · rw [spL, List.range_eq_range']; exact ord_lines _ 0 (by omega)
    · rw [List.all_eq_true]
      intro x hx
      rw [spL, List.mem_map] at hx
      obtain ⟨j, hj, rfl⟩ := hx
      exact sp_ok hl (List.mem_range.1 hj)
  rw [e] at h
  exact h
theorem sums (l : List UInt8) : sumI (spL l) + sumI (gpL l) = (l.length : Int) := by
  have a1 : ∀ k, sumI ((List.range (k + 1)).map (spJ l)) = sumI ((List.range k).map (spJ l)) + ((enN l k : Int) - (sN l k : Int)) := fun k => by
    rw [List.range_succ, List.map_append, sumI_append]
    simp [sumI, spJ]
  have a2 : ∀ k, sumI ((List.range (k + 1)).map (gpJ l)) = sumI ((List.range k).map (gpJ l)) + ((sN l (k + 1) : Int) - (enN l k : Int)) := fun k => by
    rw [List.range_succ, List.map_append, sumI_append]
    simp [sumI, gpJ]
  have key : ∀ k, k < (ssN l).length → sumI ((List.range (k + 1)).map (spJ l)) + sumI ((List.range k).map (gpJ l)) = (enN l k : Int) := by
    intro k
    induction k with
    | zero =>
      intro _
      simp [sumI, spJ, sN_zero]
    | succ k ih =>
      intro h
      have ih := ih (by omega)
      have h1 := a1 (k + 1)
      have h2 := a2 k
      omega
  obtain ⟨c, hc⟩ : ∃ c, (ssN l).length = c + 1 := ⟨(ssN l).length - 1, by have := ssN_pos l; omega⟩
  have h := key c (by omega)
  rw [en_last (l := l) (j := c) (by omega)] at h
  rw [spL, gpL, hc, Nat.add_sub_cancel]
  exact h
theorem sp_oks {l : List UInt8} (hl : l.length ≤ 65536) : (spL l).all okB = true := by
  rw [List.all_eq_true]
  intro x hx
  rw [spL, List.mem_map] at hx
  obtain ⟨j, hj, rfl⟩ := hx
  have := sp_ok hl (List.mem_range.1 hj)
  unfold okG at this
  rw [Bool.and_eq_true] at this
  exact this.1
theorem gp_oks {l : List UInt8} (hl : l.length ≤ 65536) : (gpL l).all okB = true := by
  rw [List.all_eq_true]
  intro x hx
  rw [gpL, List.mem_map] at hx
  obtain ⟨j, hj, rfl⟩ := hx
  exact gp_ok hl (by have := List.mem_range.1 hj; omega)
/-- What lies between two lines is a line end. -/
theorem gap_text (s : ByteArray) {j : Nat} (h : j + 1 < (ssN s.data.toList).length) : s.extract (enN s.data.toList j) (sN s.data.toList (j + 1)) = ⟨#[10]⟩ ∨ s.extract (enN s.data.toList j) (sN s.data.toList (j + 1)) = ⟨#[13, 10]⟩ := by
  obtain ⟨h1, h2⟩ := end_before h
  have hlt := sN_lt (l := s.data.toList) (i := j) (j := j + 1) (by omega) h
  have e : enN s.data.toList j = if sN s.data.toList j < sN s.data.toList (j + 1) - 1 ∧ s.data.toList.getD (sN s.data.toList (j + 1) - 1 - 1) 0 = 13 then sN s.data.toList (j + 1) - 1 - 1 else sN s.data.toList (j + 1) - 1 := by rw [enN, if_pos h]
  have one : ∀ (l : List UInt8) (t : Nat) (h : t < l.length), (l.take (t + 1)).drop t = [l[t]] := fun l t h => by
    rw [List.drop_take, List.drop_eq_getElem_cons h, show t + 1 - t = 1 by omega]
    rfl
  obtain ⟨t, ht⟩ : ∃ t, sN s.data.toList (j + 1) = t + 1 := ⟨sN s.data.toList (j + 1) - 1, by omega⟩
  rw [ht, Nat.add_sub_cancel] at e
  have h1' : t < s.data.toList.length := by rw [ht] at h1; exact h1
  have h2' : s.data.toList[t] = 10 := by
    have : ∀ q, (hq : q < s.data.toList.length) → q = t → s.data.toList[q] = 10 → s.data.toList[t] = 10 := fun q hq e h => by subst e; exact h
    exact this _ h1 (by omega) h2
  rw [ht]
  by_cases hc : sN s.data.toList j < t ∧ s.data.toList.getD (t - 1) 0 = 13
  · right
    rw [if_pos hc] at e
    obtain ⟨q, rfl⟩ : ∃ q, t = q + 1 := ⟨t - 1, by omega⟩
    rw [Nat.add_sub_cancel] at e hc
    have hq : s.data.toList[q] = 13 := by
      have h3 := hc.2
      rw [List.getD_eq_getElem?_getD, List.getElem?_eq_getElem (by omega), Option.getD_some] at h3
      exact h3
    rw [e]
    apply LiR.ba_ext
    rw [LiR.ext_data, List.drop_take, List.drop_eq_getElem_cons (by omega : q < s.data.toList.length), List.drop_eq_getElem_cons h1', show q + 1 + 1 - q = 2 by omega, hq, h2']
    rfl
  · left
    rw [if_neg hc] at e
    rw [e]
    apply LiR.ba_ext
    rw [LiR.ext_data, one _ _ h1', h2']
end Go.Proofs.YtimhbepecnmjeaaDoor.Sp
