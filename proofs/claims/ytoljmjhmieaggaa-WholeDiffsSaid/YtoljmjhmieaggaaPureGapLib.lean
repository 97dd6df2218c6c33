/- What lies between spans and the spans cover each byte once, or the answer says why not, as the statement SpanGaps says; every input. -/
import Derived.Test.YtoljmjhmieaggaaM41
import Derived.Test.YtoljmjhmieaggaaX30
namespace Go.Proofs.Ytoljmjhmieaggaa.Pure
open Go.RowKit Go.Proofs.Ytoljmjhmieaggaa.X Go.Proofs.YtoljmjhmieaggaaW.PrintWords Go.Proofs.YtoljmjhmieaggaaW.PrintLast
set_option linter.unusedVariables false
set_option linter.unusedSimpArgs false

theorem wrap_one : wrap64 (0 + 1) = ((0 + 1 : Nat) : Int) := by
  rw [wrap_id (by omega) (by omega)]
  rfl
def okG (n : Int) (s : S39) : Bool := okB s && decide (s.f1 ≤ n)
def gordG (p s : S39) : Bool := decide (p.f1 ≤ s.f0) && !(p.f0 == s.f0 && p.f1 == s.f1 && p.f0 == p.f1)
def gordH (x : S39) : List S39 → Bool
  | [] => true
  | y :: _ => gordG x y
def gordL : List S39 → Bool
  | [] => true
  | x :: l => gordH x l && gordL l
theorem gwrap_pred {i n : Nat} (h : i < n) (hn : n ≤ 9223372036854775807) : wrap64 (((i + 1 : Nat) : Int) - 1) = (i : Int) := by
  rw [wrap_id (by omega) (by omega)]
  omega
theorem gordL_two {x y : S39} {l : List S39} : gordL (x :: y :: l) = (gordG x y && gordL (y :: l)) := rfl
theorem okG_iff {n : Int} {s : S39} : okG n s = true ↔ 0 ≤ s.f0 ∧ s.f0 ≤ s.f1 ∧ s.f1 ≤ 65536 ∧ s.f1 ≤ n := by
  unfold okG okB
  rw [Bool.and_eq_true, okS_iff, decide_eq_true_iff]
  omega

/-! Sorted. -/
theorem sorted_step (l : List S39) (hl : l.length ≤ 9223372036854775807) (hok : l.all okB = true) : ∀ (d i : Nat), l.length - i = d → i < l.length → Ev (fun k => span_Sorted.l0 k l l (l.length : Int) ((i + 1 : Nat) : Int)) (gordL (l.drop i)) := by
  intro d
  induction d with
  | zero => intro i h1 h2; omega
  | succ d ih =>
    intro i h1 h2
    refine Ev.step (fun k => by rw [span_Sorted.l0]) ?_
    by_cases h : i + 1 < l.length
    · refine Ev.pos (by omega) (Ev.pos (by omega) (Ev.pos (by omega) ?_))
      have ho := List.all_eq_true.1 hok
      have o1 : okS l[i].f0 l[i].f1 = true := ho _ (List.getElem_mem h2)
      have o2 : okS l[i + 1].f0 l[i + 1].f1 = true := ho _ (List.getElem_mem h)
      rw [gwrap_pred h2 hl, rd39_lt h2, rd39_lt h, wrap_succ h hl]
      refine Ev.bind (right_one _ _) (Ev.pos o2 (Ev.pos (by omega) (Ev.pos (by omega) (Ev.pos (by omega) ?_))))
      have ed : l.drop i = l[i] :: l[i + 1] :: l.drop (i + 1 + 1) := by rw [List.drop_eq_getElem_cons h2, List.drop_eq_getElem_cons h]
      have ed2 : l.drop (i + 1) = l[i + 1] :: l.drop (i + 1 + 1) := List.drop_eq_getElem_cons h
      have next := ih (i + 1) (by omega) h
      rw [ed2] at next
      rw [ed, gordL_two]
      by_cases h3 : l[i].f1 > l[i + 1].f0
      · refine Ev.pos h3 (Ev.cast (Ev.now_ _) ?_)
        rw [gordG, show decide (l[i].f1 ≤ l[i + 1].f0) = false by simp; omega, Bool.false_and, Bool.false_and]
      · refine Ev.neg h3 (Ev.bind (apart_any _ _ _ _) ?_)
        have ea : apartS l[i].f0 l[i].f1 l[i + 1].f0 l[i + 1].f1 = gordG l[i] l[i + 1] := by
          have a := okS_iff.1 o1
          unfold apartS gordG
          rw [o1, o2, Bool.true_and, Bool.true_and, Bool.eq_iff_iff]
          simp only [Bool.and_eq_true, Bool.or_eq_true, Bool.not_eq_true', decide_eq_true_eq, decide_eq_false_iff_not, beq_iff_eq, ← Bool.not_eq_true]
          omega
        rw [ea]
        by_cases hg : gordG l[i] l[i + 1] = true
        · refine Ev.pos hg ?_
          rw [hg, Bool.true_and]
          exact next
        · refine Ev.neg hg (Ev.cast (Ev.now_ _) ?_)
          rw [Bool.not_eq_true] at hg
          rw [hg, Bool.false_and]
    · refine Ev.neg (by omega) (Ev.cast (Ev.now_ _) ?_)
      rw [List.drop_eq_getElem_cons h2, List.drop_eq_nil_of_le (by omega)]
      rfl
theorem sorted_any (l : List S39) (hl : l.length ≤ 9223372036854775807) (hok : l.all okB = true) : Ev (fun k => span_Sorted.f k l) (gordL l) := by
  unfold span_Sorted.f
  refine Ev.step (fun k => by rw [span_Sorted.l0]) ?_
  by_cases h : 0 < l.length
  · refine Ev.pos (by omega) (Ev.pos (by omega) (Ev.pos (by omega) ?_))
    have r0 : rd_T39 l 0 = l[0] := rd39_lt (i := 0) h
    rw [r0, wrap_one]
    have o : okS l[0].f0 l[0].f1 = true := List.all_eq_true.1 hok _ (List.getElem_mem h)
    refine Ev.bind (right_one _ _) (Ev.pos o (Ev.neg (by omega) ?_))
    have := sorted_step l hl hok _ 0 rfl h
    rw [List.drop_zero] at this
    exact this
  · obtain rfl := List.eq_nil_of_length_eq_zero (show l.length = 0 by omega)
    exact Ev.neg (by simp) (Ev.now_ _)

/-! Gaps. -/
def gapL : Int → List S39 → List S39
  | _, [] => []
  | at_, s :: l => (if at_ < s.f0 then [⟨at_, s.f0⟩] else []) ++ gapL s.f1 l
theorem gapL_length : ∀ (l : List S39) (at_ : Int), (gapL at_ l).length ≤ l.length
  | [], _ => Nat.le_refl _
  | s :: l, at_ => by
    have := gapL_length l s.f1
    rw [gapL, List.length_append, List.length_cons]
    by_cases h : at_ < s.f0
    · rw [if_pos h, List.length_singleton]; omega
    · rw [if_neg h, List.length_nil]; omega
theorem gaps_l1 (L : List S39) (hL : L.length ≤ 1000000) : ∀ (d i : Nat) (at_ : Int) (out : List S39), L.length - i = d → i ≤ L.length → out.length ≤ i → Ev (fun k => span_Gaps.l1 k out at_ L (L.length : Int) (i : Int)) (out ++ gapL at_ (L.drop i), 0) := by
  intro d
  induction d with
  | zero =>
    intro i at_ out h1 h2 h3
    refine Ev.step (fun k => by rw [span_Gaps.l1]) (Ev.neg (by omega) (Ev.cast (Ev.now_ _) ?_))
    rw [List.drop_eq_nil_of_le (by omega), gapL, List.append_nil]
  | succ d ih =>
    intro i at_ out h1 h2 h3
    have hi : i < L.length := by omega
    refine Ev.step (fun k => by rw [span_Gaps.l1]) (Ev.pos (by omega) (Ev.pos (by omega) (Ev.pos (by omega) ?_)))
    rw [rd39_lt hi, wrap_succ hi (by omega), List.drop_eq_getElem_cons hi, gapL]
    by_cases h : at_ < L[i].f0
    · refine Ev.pos h (Ev.pos (by omega) ?_)
      rw [if_pos h, ← List.append_assoc]
      exact ih (i + 1) _ _ (by omega) (by omega) (by rw [List.length_append, List.length_singleton]; omega)
    · refine Ev.neg h ?_
      rw [if_neg h, List.nil_append]
      exact ih (i + 1) _ _ (by omega) (by omega) (by omega)
def gapsV (n : Int) (l : List S39) : List S39 × Int := if l.all (okG n) = true then (if gordL l = true then (gapL 0 (l ++ [⟨n, n⟩]), 0) else ([], 7)) else ([], 1)
theorem gaps_l0 (n : Int) (hn : 0 ≤ n) (hn2 : n ≤ 65536) (l : List S39) (hl : l.length ≤ 100000) : ∀ (d i : Nat), l.length - i = d → i ≤ l.length → (∀ j (hj : j < i) (hj2 : j < l.length), okG n l[j] = true) → Ev (fun k => span_Gaps.l0 k n l 0 l (l.length : Int) (i : Int)) (gapsV n l) := by
  intro d
  induction d with
  | zero =>
    intro i h1 h2 h3
    refine Ev.step (fun k => by rw [span_Gaps.l0]) (Ev.neg (by omega) ?_)
    have hall : l.all (okG n) = true := List.all_eq_true.2 (fun x hx => by
      obtain ⟨j, hj, rfl⟩ := List.getElem_of_mem hx
      exact h3 j (by omega) hj)
    have hok : l.all okB = true := List.all_eq_true.2 (fun x hx => by
      have := List.all_eq_true.1 hall x hx
      unfold okG at this
      rw [Bool.and_eq_true] at this
      exact this.1)
    refine Ev.bind (sorted_any l (by omega) hok) ?_
    unfold gapsV
    rw [if_pos hall]
    by_cases ho : gordL l = true
    · rw [if_pos ho]
      refine Ev.pos ho (Ev.bind (Ev.eq (by rw [api_Span.f, if_pos (by omega)])) (Ev.pos (by omega) (Ev.bind (Ev.now_ _) ?_)))
      have := gaps_l1 (l ++ [⟨n, n⟩]) (by rw [List.length_append, List.length_singleton]; omega) _ 0 0 [] rfl (by omega) (by simp)
      rw [List.nil_append, List.drop_zero] at this
      exact this
    · rw [if_neg ho]
      exact Ev.neg ho (Ev.now_ _)
  | succ d ih =>
    intro i h1 h2 h3
    have hi : i < l.length := by omega
    refine Ev.step (fun k => by rw [span_Gaps.l0]) (Ev.pos (by omega) (Ev.pos (by omega) (Ev.pos (by omega) ?_)))
    rw [rd39_lt hi, wrap_succ hi (by omega)]
    refine Ev.bind (Ev.eq (check_any _ _ _)) ?_
    by_cases hc : okG n l[i] = true
    · have hc' := okG_iff.1 hc
      refine Ev.pos (by rw [if_pos ⟨hc'.1, hc'.2.1, hc'.2.2.2, hn2⟩]) (ih (i + 1) (by omega) (by omega) ?_)
      intro j hj hj2
      by_cases e : j = i
      · subst e; exact hc
      · exact h3 j (by omega) hj2
    · have hc' : ¬ (0 ≤ l[i].f0 ∧ l[i].f0 ≤ l[i].f1 ∧ l[i].f1 ≤ n ∧ n ≤ 65536) := fun h => hc (okG_iff.2 ⟨h.1, h.2.1, by omega, h.2.2.1⟩)
      refine Ev.neg (by rw [if_neg hc']; decide) (Ev.cast (Ev.now_ _) ?_)
      unfold gapsV
      rw [if_neg hc', if_neg (fun h => hc (List.all_eq_true.1 h _ (List.getElem_mem hi)))]
theorem gaps_any (n : Int) (hn : 0 ≤ n) (hn2 : n ≤ 65536) (l : List S39) (hl : l.length ≤ 100000) : Ev (fun k => span_Gaps.f k n l) (gapsV n l) := by
  unfold span_Gaps.f
  refine Ev.neg (by omega) (Ev.step (fun k => by rw [span_Gaps.j0]) (Ev.neg (by simp; omega) ?_))
  exact gaps_l0 n hn hn2 l hl _ 0 rfl (by omega) (fun j hj => by omega)
/-! Each place is in one span, or in one gap. -/
def cnt (j : Int) : List S39 → Int
  | [] => 0
  | s :: l => (if s.f0 ≤ j ∧ j < s.f1 then 1 else 0) + cnt j l
theorem cnt_append (j : Int) : ∀ l m : List S39, cnt j (l ++ m) = cnt j l + cnt j m
  | [], m => by simp [cnt]
  | s :: l, m => by rw [List.cons_append, cnt, cnt, cnt_append j l]; omega
theorem cnt_range (j : Int) : ∀ l : List S39, 0 ≤ cnt j l ∧ cnt j l ≤ l.length
  | [] => by simp [cnt]
  | s :: l => by
    have := cnt_range j l
    rw [cnt, List.length_cons]
    by_cases h : s.f0 ≤ j ∧ j < s.f1
    · rw [if_pos h]; omega
    · rw [if_neg h]; omega
def gSrt (n : Int) : Int → List S39 → Prop
  | at_, [] => at_ ≤ n
  | at_, s :: l => at_ ≤ s.f0 ∧ s.f0 ≤ s.f1 ∧ s.f1 ≤ n ∧ gSrt n s.f1 l
theorem cnt_once {n j : Int} : ∀ {l : List S39} {at_ : Int}, gSrt n at_ l → cnt j l + cnt j (gapL at_ (l ++ [⟨n, n⟩])) = if at_ ≤ j ∧ j < n then 1 else 0
  | [], at_, h => by
    have h' : at_ ≤ n := h
    rw [List.nil_append, gapL, gapL, cnt, List.append_nil]
    by_cases hc : at_ < n
    · rw [if_pos hc, cnt, cnt]; simp
    · rw [if_neg hc, cnt, if_neg (by omega)]; rfl
  | s :: l, at_, h => by
    obtain ⟨h1, h2, h3, h4⟩ := h
    have ih := cnt_once (j := j) h4
    rw [List.cons_append, gapL, cnt, cnt_append]
    have e : cnt j (if at_ < s.f0 then [(⟨at_, s.f0⟩ : S39)] else []) = if at_ ≤ j ∧ j < s.f0 then 1 else 0 := by
      by_cases hc : at_ < s.f0
      · rw [if_pos hc, cnt, cnt, Int.add_zero]
      · rw [if_neg hc, cnt, if_neg (by omega)]
    rw [e]
    have h5 : s.f1 ≤ n := h3
    by_cases a1 : s.f0 ≤ j ∧ j < s.f1
    · rw [if_pos a1, if_neg (by omega), if_pos (by omega)]
      rw [if_neg (by omega)] at ih
      omega
    · rw [if_neg a1]
      by_cases a2 : at_ ≤ j ∧ j < s.f0
      · rw [if_pos a2, if_pos (by omega)]
        rw [if_neg (by omega)] at ih
        omega
      · rw [if_neg a2]
        by_cases a3 : s.f1 ≤ j ∧ j < n
        · rw [if_pos (by omega)]
          rw [if_pos a3] at ih
          omega
        · rw [if_neg (by omega)]
          rw [if_neg a3] at ih
          omega
theorem srt_of {n : Int} : ∀ {l : List S39} {at_ : Int}, at_ ≤ n → (∀ x ∈ l, okG n x = true) → gordL l = true → (∀ x, l.head? = some x → at_ ≤ x.f0) → gSrt n at_ l
  | [], at_, h, _, _, _ => h
  | x :: l, at_, h, hall, hord, hat => by
    have h1 := okG_iff.1 (hall x List.mem_cons_self)
    rw [gordL, Bool.and_eq_true] at hord
    refine ⟨hat x rfl, h1.2.1, h1.2.2.2, srt_of h1.2.2.2 (fun y hy => hall y (List.mem_cons_of_mem _ hy)) hord.2 (fun y hy => ?_)⟩
    cases l with
    | nil => simp at hy
    | cons z l =>
      simp at hy
      subst hy
      have h3 := hord.1
      rw [gordH, gordG, Bool.and_eq_true, decide_eq_true_iff] at h3
      exact h3.1
/-- Gaps stand in order, and none is empty. -/
def gFar : Int → List S39 → Prop
  | _, [] => True
  | at_, s :: l => at_ ≤ s.f0 ∧ s.f0 < s.f1 ∧ gFar s.f1 l
theorem gFar.mono {at_ at' : Int} : ∀ {l : List S39}, gFar at_ l → at' ≤ at_ → gFar at' l
  | [], _, _ => trivial
  | s :: l, h, hle => ⟨Int.le_trans hle h.1, h.2⟩
theorem gap_far {n : Int} : ∀ {l : List S39} {at_ : Int}, gSrt n at_ l → gFar at_ (gapL at_ (l ++ [⟨n, n⟩])) ∧ (∀ g ∈ gapL at_ (l ++ [⟨n, n⟩]), at_ ≤ g.f0 ∧ g.f0 ≤ g.f1 ∧ g.f1 ≤ n)
  | [], at_, h => by
    have h' : at_ ≤ n := h
    rw [List.nil_append, gapL, gapL, List.append_nil]
    by_cases hc : at_ < n
    · rw [if_pos hc]
      refine ⟨⟨Int.le_refl _, hc, trivial⟩, fun g hg => ?_⟩
      rw [List.mem_singleton] at hg
      subst hg
      exact ⟨Int.le_refl _, h', Int.le_refl _⟩
    · rw [if_neg hc]
      exact ⟨trivial, fun g hg => by simp at hg⟩
  | s :: l, at_, h => by
    obtain ⟨h1, h2, h3, h4⟩ := h
    obtain ⟨i1, i2⟩ := gap_far h4
    rw [List.cons_append, gapL]
    by_cases hc : at_ < s.f0
    · rw [if_pos hc]
      refine ⟨⟨Int.le_refl _, hc, i1.mono h2⟩, fun g hg => ?_⟩
      rcases List.mem_cons.1 hg with rfl | hg
      · exact ⟨Int.le_refl _, h1, Int.le_trans h2 h3⟩
      · have := i2 g hg; omega
    · rw [if_neg hc, List.nil_append]
      exact ⟨i1.mono (by omega), fun g hg => by have := i2 g hg; omega⟩

/-! The law's own counting. -/
end Go.Proofs.Ytoljmjhmieaggaa.Pure
