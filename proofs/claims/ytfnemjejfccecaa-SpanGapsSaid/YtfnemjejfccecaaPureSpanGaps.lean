/- What lies between spans and the spans cover each byte once, or the answer says why not, as the statement SpanGaps says; every input. -/
import Derived.Test.YtfnemjejfccecaaX8
import Derived.Test.YtfnemjejfccecaaPureSpanMay
import Derived.Test.YtfnemjejfccecaaPureSpanLib
namespace Go.Proofs.Ytfnemjejfccecaa.Pure
open Go.RowKit Go.Proofs.Ytfnemjejfccecaa.X Go.Proofs.YtfnemjejfccecaaW.PrintWords Go.Proofs.YtfnemjejfccecaaW.PrintLast
set_option linter.unusedVariables false
set_option linter.unusedSimpArgs false

theorem wrap_pred {i n : Nat} (h : i < n) (hn : n ≤ 9223372036854775807) : wrap64 (((i + 1 : Nat) : Int) - 1) = (i : Int) := by
  rw [wrap_id (by omega) (by omega)]
  omega
theorem wrap_one : wrap64 (0 + 1) = ((0 + 1 : Nat) : Int) := by
  rw [wrap_id (by omega) (by omega)]
  rfl
def okG (n : Int) (s : S24) : Bool := okB s && decide (s.f1 ≤ n)
def ordG (p s : S24) : Bool := decide (p.f1 ≤ s.f0) && !(p.f0 == s.f0 && p.f1 == s.f1 && p.f0 == p.f1)
def ordH (x : S24) : List S24 → Bool
  | [] => true
  | y :: _ => ordG x y
def ordL : List S24 → Bool
  | [] => true
  | x :: l => ordH x l && ordL l
theorem ordL_two {x y : S24} {l : List S24} : ordL (x :: y :: l) = (ordG x y && ordL (y :: l)) := rfl
theorem okG_iff {n : Int} {s : S24} : okG n s = true ↔ 0 ≤ s.f0 ∧ s.f0 ≤ s.f1 ∧ s.f1 ≤ 65536 ∧ s.f1 ≤ n := by
  unfold okG okB
  rw [Bool.and_eq_true, okS_iff, decide_eq_true_iff]
  omega

/-! Sorted. -/
theorem sorted_step (l : List S24) (hl : l.length ≤ 9223372036854775807) (hok : l.all okB = true) : ∀ (d i : Nat), l.length - i = d → i < l.length → Ev (fun k => span_Sorted.l0 k l l (l.length : Int) ((i + 1 : Nat) : Int)) (ordL (l.drop i)) := by
  intro d
  induction d with
  | zero => intro i h1 h2; omega
  | succ d ih =>
    intro i h1 h2
    refine Ev.step (fun k => by rw [span_Sorted.l0]) ?_
    by_cases h : i + 1 < l.length
    · refine Ev.pos (by omega) (Ev.pos (by omega) (Ev.pos (by omega) ?_))
      have ho := List.all_eq_true.1 hok
      have o1 : okS l[i].f0 l[i].f1 = true := ho _ (List.getElem_mem h2)
      have o2 : okS l[i + 1].f0 l[i + 1].f1 = true := ho _ (List.getElem_mem h)
      rw [wrap_pred h2 hl, rd24_lt h2, rd24_lt h, wrap_succ h hl]
      refine Ev.bind (right_one _ _) (Ev.pos o2 (Ev.pos (by omega) (Ev.pos (by omega) (Ev.pos (by omega) ?_))))
      have ed : l.drop i = l[i] :: l[i + 1] :: l.drop (i + 1 + 1) := by rw [List.drop_eq_getElem_cons h2, List.drop_eq_getElem_cons h]
      have ed2 : l.drop (i + 1) = l[i + 1] :: l.drop (i + 1 + 1) := List.drop_eq_getElem_cons h
      have next := ih (i + 1) (by omega) h
      rw [ed2] at next
      rw [ed, ordL_two]
      by_cases h3 : l[i].f1 > l[i + 1].f0
      · refine Ev.pos h3 (Ev.cast (Ev.now _) ?_)
        rw [ordG, show decide (l[i].f1 ≤ l[i + 1].f0) = false by simp; omega, Bool.false_and, Bool.false_and]
      · refine Ev.neg h3 (Ev.bind (apart_any _ _ _ _) ?_)
        have ea : apartS l[i].f0 l[i].f1 l[i + 1].f0 l[i + 1].f1 = ordG l[i] l[i + 1] := by
          have a := okS_iff.1 o1
          unfold apartS ordG
          rw [o1, o2, Bool.true_and, Bool.true_and, Bool.eq_iff_iff]
          simp only [Bool.and_eq_true, Bool.or_eq_true, Bool.not_eq_true', decide_eq_true_eq, decide_eq_false_iff_not, beq_iff_eq, ← Bool.not_eq_true]
          omega
        rw [ea]
        by_cases hg : ordG l[i] l[i + 1] = true
        · refine Ev.pos hg ?_
          rw [hg, Bool.true_and]
          exact next
        · refine Ev.neg hg (Ev.cast (Ev.now _) ?_)
          rw [Bool.not_eq_true] at hg
          rw [hg, Bool.false_and]
    · refine Ev.neg (by omega) (Ev.cast (Ev.now _) ?_)
      rw [List.drop_eq_getElem_cons h2, List.drop_eq_nil_of_le (by omega)]
      rfl
theorem sorted_any (l : List S24) (hl : l.length ≤ 9223372036854775807) (hok : l.all okB = true) : Ev (fun k => span_Sorted.f k l) (ordL l) := by
  unfold span_Sorted.f
  refine Ev.step (fun k => by rw [span_Sorted.l0]) ?_
  by_cases h : 0 < l.length
  · refine Ev.pos (by omega) (Ev.pos (by omega) (Ev.pos (by omega) ?_))
    have r0 : rd_T24 l 0 = l[0] := rd24_lt (i := 0) h
    rw [r0, wrap_one]
    have o : okS l[0].f0 l[0].f1 = true := List.all_eq_true.1 hok _ (List.getElem_mem h)
    refine Ev.bind (right_one _ _) (Ev.pos o (Ev.neg (by omega) ?_))
    have := sorted_step l hl hok _ 0 rfl h
    rw [List.drop_zero] at this
    exact this
  · obtain rfl := List.eq_nil_of_length_eq_zero (show l.length = 0 by omega)
    exact Ev.neg (by simp) (Ev.now _)

/-! Gaps. -/
def gapL : Int → List S24 → List S24
  | _, [] => []
  | at_, s :: l => (if at_ < s.f0 then [⟨at_, s.f0⟩] else []) ++ gapL s.f1 l
theorem gapL_length : ∀ (l : List S24) (at_ : Int), (gapL at_ l).length ≤ l.length
  | [], _ => Nat.le_refl _
  | s :: l, at_ => by
    have := gapL_length l s.f1
    rw [gapL, List.length_append, List.length_cons]
    by_cases h : at_ < s.f0
    · rw [if_pos h, List.length_singleton]; omega
    · rw [if_neg h, List.length_nil]; omega
theorem gaps_l1 (L : List S24) (hL : L.length ≤ 1000000) : ∀ (d i : Nat) (at_ : Int) (out : List S24), L.length - i = d → i ≤ L.length → out.length ≤ i → Ev (fun k => span_Gaps.l1 k out at_ L (L.length : Int) (i : Int)) (out ++ gapL at_ (L.drop i), 0) := by
  intro d
  induction d with
  | zero =>
    intro i at_ out h1 h2 h3
    refine Ev.step (fun k => by rw [span_Gaps.l1]) (Ev.neg (by omega) (Ev.cast (Ev.now _) ?_))
    rw [List.drop_eq_nil_of_le (by omega), gapL, List.append_nil]
  | succ d ih =>
    intro i at_ out h1 h2 h3
    have hi : i < L.length := by omega
    refine Ev.step (fun k => by rw [span_Gaps.l1]) (Ev.pos (by omega) (Ev.pos (by omega) (Ev.pos (by omega) ?_)))
    rw [rd24_lt hi, wrap_succ hi (by omega), List.drop_eq_getElem_cons hi, gapL]
    by_cases h : at_ < L[i].f0
    · refine Ev.pos h (Ev.pos (by omega) ?_)
      rw [if_pos h, ← List.append_assoc]
      exact ih (i + 1) _ _ (by omega) (by omega) (by rw [List.length_append, List.length_singleton]; omega)
    · refine Ev.neg h ?_
      rw [if_neg h, List.nil_append]
      exact ih (i + 1) _ _ (by omega) (by omega) (by omega)
def gapsV (n : Int) (l : List S24) : List S24 × Int := if l.all (okG n) = true then (if ordL l = true then (gapL 0 (l ++ [⟨n, n⟩]), 0) else ([], 7)) else ([], 1)
theorem gaps_l0 (n : Int) (hn : 0 ≤ n) (hn2 : n ≤ 65536) (l : List S24) (hl : l.length ≤ 100000) : ∀ (d i : Nat), l.length - i = d → i ≤ l.length → (∀ j (hj : j < i) (hj2 : j < l.length), okG n l[j] = true) → Ev (fun k => span_Gaps.l0 k n l 0 l (l.length : Int) (i : Int)) (gapsV n l) := by
  intro d
  induction d with
  | zero =>
    intro i h1 h2 h3
    refine Ev.step (fun k => by rw [span_Gaps.l0]) (Ev.neg (by omega) ?_)
    have hall : l.all (okG n) = true := List.all_eq_true.2 (fun x hx => by
      obtain ⟨j, hj, rfl⟩ := List.getElem_of_mem hx
      exact h3 j (by omega) hj)
    have hok : l.all okB = true := List.all_eq_true.2 (fun x hx => by
      have := List.all_eq_true.1 hall x hx
      unfold okG at this
      rw [Bool.and_eq_true] at this
      exact this.1)
    refine Ev.bind (sorted_any l (by omega) hok) ?_
    unfold gapsV
    rw [if_pos hall]
    by_cases ho : ordL l = true
    · rw [if_pos ho]
      refine Ev.pos ho (Ev.bind (Ev.eq (by rw [api_Span.f, if_pos (by omega)])) (Ev.pos (by omega) (Ev.bind (Ev.now _) ?_)))
      have := gaps_l1 (l ++ [⟨n, n⟩]) (by rw [List.length_append, List.length_singleton]; omega) _ 0 0 [] rfl (by omega) (by simp)
      rw [List.nil_append, List.drop_zero] at this
      exact this
    · rw [if_neg ho]
      exact Ev.neg ho (Ev.now _)
  | succ d ih =>
    intro i h1 h2 h3
    have hi : i < l.length := by omega
    refine Ev.step (fun k => by rw [span_Gaps.l0]) (Ev.pos (by omega) (Ev.pos (by omega) (Ev.pos (by omega) ?_)))
    rw [rd24_lt hi, wrap_succ hi (by omega)]
    refine Ev.bind (Ev.eq (check_any _ _ _)) ?_
    by_cases hc : okG n l[i] = true
    · have hc' := okG_iff.1 hc
      refine Ev.pos (by rw [if_pos ⟨hc'.1, hc'.2.1, hc'.2.2.2, hn2⟩]) (ih (i + 1) (by omega) (by omega) ?_)
      intro j hj hj2
      by_cases e : j = i
      · subst e; exact hc
      · exact h3 j (by omega) hj2
    · have hc' : ¬ (0 ≤ l[i].f0 ∧ l[i].f0 ≤ l[i].f1 ∧ l[i].f1 ≤ n ∧ n ≤ 65536) := fun h => hc (okG_iff.2 ⟨h.1, h.2.1, by omega, h.2.2.1⟩)
      refine Ev.neg (by rw [if_neg hc']; decide) (Ev.cast (Ev.now _) ?_)
      unfold gapsV
      rw [if_neg hc', if_neg (fun h => hc (List.all_eq_true.1 h _ (List.getElem_mem hi)))]
theorem gaps_any (n : Int) (hn : 0 ≤ n) (hn2 : n ≤ 65536) (l : List S24) (hl : l.length ≤ 100000) : Ev (fun k => span_Gaps.f k n l) (gapsV n l) := by
  unfold span_Gaps.f
  refine Ev.neg (by omega) (Ev.step (fun k => by rw [span_Gaps.j0]) (Ev.neg (by simp; omega) ?_))
  exact gaps_l0 n hn hn2 l hl _ 0 rfl (by omega) (fun j hj => by omega)
theorem gaps_none (n : Int) (hn : n < 0) (l : List S24) : Ev (fun k => span_Gaps.f k n l) ([], 1) := by
  unfold span_Gaps.f
  exact Ev.pos hn (Ev.step (fun k => by rw [span_Gaps.j0]) (Ev.pos rfl (Ev.now _)))

/-! Each place is in one span, or in one gap. -/
def cnt (j : Int) : List S24 → Int
  | [] => 0
  | s :: l => (if s.f0 ≤ j ∧ j < s.f1 then 1 else 0) + cnt j l
theorem cnt_append (j : Int) : ∀ l m : List S24, cnt j (l ++ m) = cnt j l + cnt j m
  | [], m => by simp [cnt]
  | s :: l, m => by rw [List.cons_append, cnt, cnt, cnt_append j l]; omega
theorem cnt_range (j : Int) : ∀ l : List S24, 0 ≤ cnt j l ∧ cnt j l ≤ l.length
  | [] => by simp [cnt]
  | s :: l => by
    have := cnt_range j l
    rw [cnt, List.length_cons]
    by_cases h : s.f0 ≤ j ∧ j < s.f1
    · rw [if_pos h]; omega
    · rw [if_neg h]; omega
def Srt (n : Int) : Int → List S24 → Prop
  | at_, [] => at_ ≤ n
  | at_, s :: l => at_ ≤ s.f0 ∧ s.f0 ≤ s.f1 ∧ s.f1 ≤ n ∧ Srt n s.f1 l
theorem cnt_once {n j : Int} : ∀ {l : List S24} {at_ : Int}, Srt n at_ l → cnt j l + cnt j (gapL at_ (l ++ [⟨n, n⟩])) = if at_ ≤ j ∧ j < n then 1 else 0
  | [], at_, h => by
    have h' : at_ ≤ n := h
    rw [List.nil_append, gapL, gapL, cnt, List.append_nil]
    by_cases hc : at_ < n
    · rw [if_pos hc, cnt, cnt]; simp
    · rw [if_neg hc, cnt, if_neg (by omega)]; rfl
  | s :: l, at_, h => by
    obtain ⟨h1, h2, h3, h4⟩ := h
    have ih := cnt_once (j := j) h4
    rw [List.cons_append, gapL, cnt, cnt_append]
    have e : cnt j (if at_ < s.f0 then [(⟨at_, s.f0⟩ : S24)] else []) = if at_ ≤ j ∧ j < s.f0 then 1 else 0 := by
      by_cases hc : at_ < s.f0
      · rw [if_pos hc, cnt, cnt, Int.add_zero]
      · rw [if_neg hc, cnt, if_neg (by omega)]
    rw [e]
    have h5 : s.f1 ≤ n := h3
    by_cases a1 : s.f0 ≤ j ∧ j < s.f1
    · rw [if_pos a1, if_neg (by omega), if_pos (by omega)]
      rw [if_neg (by omega)] at ih
      omega
    · rw [if_neg a1]
      by_cases a2 : at_ ≤ j ∧ j < s.f0
      · rw [if_pos a2, if_pos (by omega)]
        rw [if_neg (by omega)] at ih
        omega
      · rw [if_neg a2]
        by_cases a3 : s.f1 ≤ j ∧ j < n
        · rw [if_pos (by omega)]
          rw [if_pos a3] at ih
          omega
        · rw [if_neg (by omega)]
          rw [if_neg a3] at ih
          omega
theorem srt_of {n : Int} : ∀ {l : List S24} {at_ : Int}, at_ ≤ n → (∀ x ∈ l, okG n x = true) → ordL l = true → (∀ x, l.head? = some x → at_ ≤ x.f0) → Srt n at_ l
  | [], at_, h, _, _, _ => h
  | x :: l, at_, h, hall, hord, hat => by
    have h1 := okG_iff.1 (hall x List.mem_cons_self)
    rw [ordL, Bool.and_eq_true] at hord
    refine ⟨hat x rfl, h1.2.1, h1.2.2.2, srt_of h1.2.2.2 (fun y hy => hall y (List.mem_cons_of_mem _ hy)) hord.2 (fun y hy => ?_)⟩
    cases l with
    | nil => simp at hy
    | cons z l =>
      simp at hy
      subst hy
      have h3 := hord.1
      rw [ordH, ordG, Bool.and_eq_true, decide_eq_true_iff] at h3
      exact h3.1
/-- Gaps stand in order, and none is empty. -/
def Far : Int → List S24 → Prop
  | _, [] => True
  | at_, s :: l => at_ ≤ s.f0 ∧ s.f0 < s.f1 ∧ Far s.f1 l
theorem Far.mono {at_ at' : Int} : ∀ {l : List S24}, Far at_ l → at' ≤ at_ → Far at' l
  | [], _, _ => trivial
  | s :: l, h, hle => ⟨Int.le_trans hle h.1, h.2⟩
theorem gap_far {n : Int} : ∀ {l : List S24} {at_ : Int}, Srt n at_ l → Far at_ (gapL at_ (l ++ [⟨n, n⟩])) ∧ (∀ g ∈ gapL at_ (l ++ [⟨n, n⟩]), at_ ≤ g.f0 ∧ g.f0 ≤ g.f1 ∧ g.f1 ≤ n)
  | [], at_, h => by
    have h' : at_ ≤ n := h
    rw [List.nil_append, gapL, gapL, List.append_nil]
    by_cases hc : at_ < n
    · rw [if_pos hc]
      refine ⟨⟨Int.le_refl _, hc, trivial⟩, fun g hg => ?_⟩
      rw [List.mem_singleton] at hg
      subst hg
      exact ⟨Int.le_refl _, h', Int.le_refl _⟩
    · rw [if_neg hc]
      exact ⟨trivial, fun g hg => by simp at hg⟩
  | s :: l, at_, h => by
    obtain ⟨h1, h2, h3, h4⟩ := h
    obtain ⟨i1, i2⟩ := gap_far h4
    rw [List.cons_append, gapL]
    by_cases hc : at_ < s.f0
    · rw [if_pos hc]
      refine ⟨⟨Int.le_refl _, hc, i1.mono h2⟩, fun g hg => ?_⟩
      rcases List.mem_cons.1 hg with rfl | hg
      · exact ⟨Int.le_refl _, h1, Int.le_trans h2 h3⟩
      · have := i2 g hg; omega
    · rw [if_neg hc, List.nil_append]
      exact ⟨i1.mono (by omega), fun g hg => by have := i2 g hg; omega⟩

/-! The law's own counting. -/
theorem getD_set (xs : List Int) (p j : Nat) (v : Int) (hp : p < xs.length) : (xs.set p v).getD j 0 = if j = p then v else xs.getD j 0 := by
  rw [List.getD_eq_getElem?_getD, List.getD_eq_getElem?_getD, List.getElem?_set]
  by_cases h : p = j
  · rw [if_pos h, if_pos h.symm, if_pos (by omega)]; rfl
  · rw [if_neg h, if_neg (fun e => h e.symm)]
theorem gaps_l2 (n : Nat) (hn : n ≤ 100000) (G : List S24) (e : Int) (L : List S24) (len idx f0 : Int) (b : Nat) (hb : b ≤ n) (r : Bool) : ∀ (d p : Nat) (xs : List Int), b - p = d → p ≤ b → xs.length = n → (∀ j, p ≤ j → -1000000 ≤ xs.getD j 0 ∧ xs.getD j 0 ≤ 1000000) →
    (∀ ys : List Int, ys.length = n → (∀ j, ys.getD j 0 = xs.getD j 0 + if p ≤ j ∧ j < b then 1 else 0) → Ev (fun k => caulkerlaw01_SpanGaps.l1 k G e ys L len (wrap64 (idx + 1))) r) →
    Ev (fun k => caulkerlaw01_SpanGaps.l2 k G e xs (p : Int) L len idx f0 (b : Int)) r := by
  intro d
  induction d with
  | zero =>
    intro p xs h1 h2 h3 h4 hr
    refine Ev.step (fun k => by rw [caulkerlaw01_SpanGaps.l2]) (Ev.neg (by omega) (hr xs h3 (fun j => ?_)))
    rw [if_neg (by omega), Int.add_zero]
  | succ d ih =>
    intro p xs h1 h2 h3 h4 hr
    refine Ev.step (fun k => by rw [caulkerlaw01_SpanGaps.l2]) (Ev.pos (by omega) (Ev.pos (by omega) (Ev.pos (by omega) ?_)))
    have hp := h4 p (Nat.le_refl _)
    have er : rd xs (p : Int) = xs.getD p 0 := by rw [rd, Int.toNat_natCast]
    rw [er, Int.toNat_natCast, wrap_id (i := xs.getD p 0 + 1) (by omega) (by omega), wrap_succ (i := p) (n := n) (by omega) (by omega)]
    refine ih (p + 1) (xs.set p (xs.getD p 0 + 1)) (by omega) (by omega) (by rw [List.length_set]; exact h3) (fun j hj => ?_) (fun ys hy1 hy2 => hr ys hy1 (fun j => ?_))
    · rw [getD_set _ _ _ _ (by omega), if_neg (by omega)]
      exact h4 j (by omega)
    · rw [hy2 j, getD_set _ _ _ _ (by omega)]
      by_cases ej : j = p
      · rw [if_pos ej, if_neg (by omega), if_pos (by omega), ej]; omega
      · rw [if_neg ej]
        by_cases c : p + 1 ≤ j ∧ j < b
        · rw [if_pos c, if_pos (by omega)]
        · rw [if_neg c, if_neg (by omega)]
theorem gaps_law_l1 (n : Nat) (hn : n ≤ 100000) (G : List S24) (e : Int) (L : List S24) (hL : L.length ≤ 100000) (hin : ∀ s ∈ L, 0 ≤ s.f0 ∧ s.f0 ≤ s.f1 ∧ s.f1 ≤ n) (r : Bool)
    (hr : ∀ ys : List Int, ys.length = n → (∀ j, j < n → ys.getD j 0 = cnt (j : Int) L) → Ev (fun k => caulkerlaw01_SpanGaps.l3 k G e ys (ys.length : Int) 0) r) : ∀ (d i : Nat) (xs : List Int), L.length - i = d → i ≤ L.length → xs.length = n → (∀ j, j < n → xs.getD j 0 + cnt (j : Int) (L.drop i) = cnt (j : Int) L) →
    Ev (fun k => caulkerlaw01_SpanGaps.l1 k G e xs L (L.length : Int) (i : Int)) r := by
  intro d
  induction d with
  | zero =>
    intro i xs h1 h2 h3 h4
    refine Ev.step (fun k => by rw [caulkerlaw01_SpanGaps.l1]) (Ev.neg (by omega) (hr xs h3 (fun j hj => ?_)))
    have := h4 j hj
    rw [List.drop_eq_nil_of_le (by omega), cnt, Int.add_zero] at this
    exact this
  | succ d ih =>
    intro i xs h1 h2 h3 h4
    have hi : i < L.length := by omega
    have hs := hin L[i] (List.getElem_mem hi)
    refine Ev.step (fun k => by rw [caulkerlaw01_SpanGaps.l1]) (Ev.pos (by omega) (Ev.pos (by omega) (Ev.pos (by omega) ?_)))
    rw [rd24_lt hi]
    have e1 : L[i].f0 = ((L[i].f0.toNat : Nat) : Int) := by omega
    have e2 : L[i].f1 = ((L[i].f1.toNat : Nat) : Int) := by omega
    rw [List.drop_eq_getElem_cons hi] at h4
    have key : ∀ g0 : Int, Ev (fun k => caulkerlaw01_SpanGaps.l2 k G e xs ((L[i].f0.toNat : Nat) : Int) L (L.length : Int) (i : Int) g0 ((L[i].f1.toNat : Nat) : Int)) r := by
      intro g0
      refine gaps_l2 n hn G e L _ _ g0 _ (by omega) r _ _ xs rfl (by omega) h3 (fun j hj => ?_) (fun ys hy1 hy2 => ?_)
      · by_cases hjn : j < n
        · have a := h4 j hjn
          have b := cnt_range (j : Int) L
          have c := cnt_range (j : Int) (L[i] :: L.drop (i + 1))
          have d : (L[i] :: L.drop (i + 1)).length ≤ L.length := by rw [List.length_cons, List.length_drop]; omega
          omega
        · rw [List.getD_eq_getElem?_getD, List.getElem?_eq_none (by omega)]
          exact ⟨by decide, by decide⟩
      · rw [wrap_succ hi (by omega)]
        refine ih (i + 1) ys (by omega) (by omega) hy1 (fun j hj => ?_)
        have a := h4 j hj
        rw [cnt] at a
        rw [hy2 j, ← a]
        by_cases c : L[i].f0 ≤ (j : Int) ∧ (j : Int) < L[i].f1
        · rw [if_pos c, if_pos (by omega)]; omega
        · rw [if_neg c, if_neg (by omega)]; omega
    have k2 := key ((L[i].f0.toNat : Nat) : Int)
    rw [← e1, ← e2] at k2
    exact k2
theorem gaps_law_l4 (G : List S24) (hG : G.length ≤ 100000) : ∀ (d i : Nat), G.length - i = d → i < G.length → Far (G[i]?.map (·.f0) |>.getD 0) (G.drop i) → Ev (fun k => caulkerlaw01_SpanGaps.l4 k G 0 G (G.length : Int) ((i + 1 : Nat) : Int)) true := by
  intro d
  induction d with
  | zero => intro i h1 h2; omega
  | succ d ih =>
    intro i h1 h2 hf
    rw [List.drop_eq_getElem_cons h2] at hf
    refine Ev.step (fun k => by rw [caulkerlaw01_SpanGaps.l4]) ?_
    by_cases h : i + 1 < G.length
    · have hf2 := hf.2.2
      rw [List.drop_eq_getElem_cons h] at hf2
      refine Ev.pos (by omega) (Ev.pos (by omega) (Ev.pos (by omega) ?_))
      rw [wrap_pred h2 (by omega), rd24_lt h2, rd24_lt h, wrap_succ h (by omega)]
      have a1 := hf2.1
      have a2 := hf2.2.1
      refine Ev.neg (by omega) (Ev.pos (by omega) (Ev.pos (by omega) (Ev.pos (by omega) (Ev.neg (by omega) (ih (i + 1) (by omega) h ?_)))))
      rw [List.getElem?_eq_getElem h, List.drop_eq_getElem_cons h]
      exact ⟨Int.le_refl _, a2, hf2.2.2⟩
    · exact Ev.neg (by omega) (Ev.now _)
theorem gaps_law_l4_all (G : List S24) (hG : G.length ≤ 100000) {at_ : Int} (hf : Far at_ G) : Ev (fun k => caulkerlaw01_SpanGaps.l4 k G 0 G (G.length : Int) 0) true := by
  refine Ev.step (fun k => by rw [caulkerlaw01_SpanGaps.l4]) ?_
  by_cases h : 0 < G.length
  · refine Ev.pos (by omega) (Ev.pos (by omega) (Ev.pos (by omega) ?_))
    have hf' : Far at_ (G.drop 0) := hf
    rw [List.drop_eq_getElem_cons h] at hf'
    have r0 : rd_T24 G 0 = G[0] := rd24_lt (i := 0) h
    have a2 := hf'.2.1
    rw [r0, wrap_one]
    refine Ev.neg (by omega) (Ev.neg (by omega) ?_)
    refine gaps_law_l4 G hG _ 0 rfl h ?_
    rw [List.getElem?_eq_getElem h, List.drop_eq_getElem_cons h]
    exact ⟨Int.le_refl _, a2, hf'.2.2⟩
  · exact Ev.neg (by omega) (Ev.now _)
theorem gaps_law_l3 (G : List S24) (ys : List Int) (hy : ys.length ≤ 100000) (h1s : ∀ j, j < ys.length → ys.getD j 0 = 1) (r : Bool) (hr : Ev (fun k => caulkerlaw01_SpanGaps.l4 k G 0 G (G.length : Int) 0) r) : ∀ (d i : Nat), ys.length - i = d → i ≤ ys.length → Ev (fun k => caulkerlaw01_SpanGaps.l3 k G 0 ys (ys.length : Int) (i : Int)) r := by
  intro d
  induction d with
  | zero =>
    intro i h1 h2
    refine Ev.step (fun k => by rw [caulkerlaw01_SpanGaps.l3]) (Ev.neg (by omega) hr)
  | succ d ih =>
    intro i h1 h2
    have hi : i < ys.length := by omega
    refine Ev.step (fun k => by rw [caulkerlaw01_SpanGaps.l3]) (Ev.pos (by omega) (Ev.pos (by omega) (Ev.pos (by omega) (Ev.pos ?_ ?_))))
    · rw [rd, Int.toNat_natCast]; exact h1s i hi
    · rw [wrap_succ hi (by omega)]
      exact ih (i + 1) (by omega) (by omega)
/-- What stands behind the law's first loop. -/
def gtail (k : Nat) (n : Int) (l G : List S24) (e : Int) (x7 x8 : Bool) : Option Bool :=
  if x7 = true then ((span_Sorted.f k l).bind fun t269 => (if (t269 != x8) = true then (some false) else (if x8 = true then (if 0 ≤ n then (if (n : Int).toNat ≤ 35184372088832 then ((some (([] : List (S24)) : List (S24))).bind fun y273 => (if y273.length + l.length < 8796093022208 then ((some (y273 ++ l : List (S24))).bind fun y276 => (if y276.length + G.length < 8796093022208 then ((some (y276 ++ G : List (S24))).bind fun y279 => (caulkerlaw01_SpanGaps.l1 k G e (List.replicate (n : Int).toNat 0) y279 (y279.length : Int) 0)) else (none))) else (none))) else (none)) else (none)) else (if e = 7 then (some ((G.length : Int) == 0)) else (some false))))) else (if e = 1 then (some ((G.length : Int) == 0)) else (some false))
theorem law_l0 (n : Int) (l G : List S24) (e : Int) (hl : l.length ≤ 100000) (r : Bool) : ∀ (d i : Nat) (x7 x8 : Bool), l.length - i = d → i < l.length → Ev (fun k => gtail k n l G e (x7 && (l.drop (i + 1)).all (okG n)) (x8 && ordL (l.drop i))) r →
    Ev (fun k => caulkerlaw01_SpanGaps.l0 k n l G e x7 x8 l (l.length : Int) ((i + 1 : Nat) : Int)) r := by
  intro d
  induction d with
  | zero => intro i x7 x8 h1 h2; omega
  | succ d ih =>
    intro i x7 x8 h1 h2 hr
    refine Ev.step (fun k => by rw [caulkerlaw01_SpanGaps.l0]) ?_
    by_cases h : i + 1 < l.length
    · refine Ev.pos (by omega) (Ev.pos (by omega) (Ev.pos (by omega) ?_))
      have ed : l.drop i = l[i] :: l[i + 1] :: l.drop (i + 1 + 1) := by rw [List.drop_eq_getElem_cons h2, List.drop_eq_getElem_cons h]
      have ed2 : l.drop (i + 1) = l[i + 1] :: l.drop (i + 1 + 1) := List.drop_eq_getElem_cons h
      have g1 : (l.drop (i + 1)).all (okG n) = (okG n l[i + 1] && (l.drop (i + 1 + 1)).all (okG n)) := by rw [ed2, List.all_cons]
      have g2 : ordL (l.drop i) = (ordG l[i] l[i + 1] && ordL (l.drop (i + 1))) := by rw [ed, ordL_two, ← ed2]
      rw [g1, g2, ← Bool.and_assoc, ← Bool.and_assoc] at hr
      rw [wrap_pred h2 (by omega), rd24_lt h2, rd24_lt h, wrap_succ h (by omega)]
      have next : ∀ a b : Bool, a = (x7 && okG n l[i + 1]) → b = (x8 && ordG l[i] l[i + 1]) → Ev (fun k => caulkerlaw01_SpanGaps.l0 k n l G e a b l (l.length : Int) ((i + 1 + 1 : Nat) : Int)) r := by
        rintro _ _ rfl rfl
        exact ih (i + 1) _ _ (by omega) h hr
      have ord : ∀ a : Bool, a = (x7 && okG n l[i + 1]) → Ev (fun k => if ((i + 1 : Nat) : Int) > 0 then (if 0 ≤ (i : Int) then (if (i : Int) < (l.length : Int) then (if x8 = true then (if l[i].f1 ≤ l[i + 1].f0 then (if (l[i].f0 == l[i + 1].f0 && (l[i].f1 == l[i + 1].f1)) = true then (caulkerlaw01_SpanGaps.l0 k n l G e a (!(l[i].f0 == l[i].f1)) l (l.length : Int) ((i + 1 + 1 : Nat) : Int)) else (caulkerlaw01_SpanGaps.l0 k n l G e a (!false) l (l.length : Int) ((i + 1 + 1 : Nat) : Int))) else (caulkerlaw01_SpanGaps.l0 k n l G e a false l (l.length : Int) ((i + 1 + 1 : Nat) : Int))) else (caulkerlaw01_SpanGaps.l0 k n l G e a false l (l.length : Int) ((i + 1 + 1 : Nat) : Int))) else (none)) else (none)) else (caulkerlaw01_SpanGaps.l0 k n l G e a x8 l (l.length : Int) ((i + 1 + 1 : Nat) : Int))) r := by
        intro a ha
        refine Ev.pos (by omega) (Ev.pos (by omega) (Ev.pos (by omega) ?_))
        cases x8 with
        | false => exact Ev.neg (by decide) (next _ _ ha rfl)
        | true =>
          refine Ev.pos rfl ?_
          by_cases c1 : l[i].f1 ≤ l[i + 1].f0
          · refine Ev.pos c1 ?_
            by_cases c2 : (l[i].f0 == l[i + 1].f0 && (l[i].f1 == l[i + 1].f1)) = true
            · exact Ev.pos c2 (next _ _ ha (by rw [ordG, c2, decide_eq_true c1]; simp))
            · refine Ev.neg c2 (next _ _ ha ?_)
              rw [Bool.not_eq_true] at c2
              rw [ordG, c2, decide_eq_true c1]
              simp
          · refine Ev.neg c1 (next _ _ ha ?_)
            rw [ordG, decide_eq_false c1]
            simp
      cases x7 with
      | false => exact Ev.neg (by decide) (ord _ rfl)
      | true =>
        refine Ev.pos rfl (Ev.bind (Ev.eq (may_any _ _)) ?_)
        by_cases c : okS l[i + 1].f0 l[i + 1].f1 = true
        · refine Ev.pos c (ord _ ?_)
          rw [okG, okB, c]
          simp
        · refine Ev.neg c (ord _ ?_)
          rw [Bool.not_eq_true] at c
          rw [okG, okB, c]
          simp
    · refine Ev.neg (by omega) ?_
      rw [List.drop_eq_getElem_cons h2, List.drop_eq_nil_of_le (show l.length ≤ i + 1 by omega)] at hr
      have e1 : ordL [l[i]] = true := rfl
      rw [e1, List.all_nil, Bool.and_true, Bool.and_true] at hr
      exact hr
theorem law_all (n : Int) (l G : List S24) (e : Int) (hl : l.length ≤ 100000) (r : Bool) (hr : Ev (fun k => gtail k n l G e (l.all (okG n)) (ordL l)) r) : Ev (fun k => caulkerlaw01_SpanGaps.l0 k n l G e true true l (l.length : Int) 0) r := by
  refine Ev.step (fun k => by rw [caulkerlaw01_SpanGaps.l0]) ?_
  by_cases h : 0 < l.length
  · have r0 : rd_T24 l 0 = l[0] := rd24_lt (i := 0) h
    have ed : l = l[0] :: l.drop 1 := by have := List.drop_eq_getElem_cons h; rwa [List.drop_zero] at this
    refine Ev.pos (by omega) (Ev.pos (by omega) (Ev.pos (by omega) (Ev.pos rfl (Ev.bind (Ev.eq (may_any _ _)) ?_))))
    rw [r0, wrap_one]
    have ea : l.all (okG n) = (okG n l[0] && (l.drop 1).all (okG n)) := (congrArg (fun z => List.all z (okG n)) ed).trans rfl
    rw [ea] at hr
    have next : ∀ a : Bool, a = okG n l[0] → Ev (fun k => caulkerlaw01_SpanGaps.l0 k n l G e a true l (l.length : Int) ((0 + 1 : Nat) : Int)) r := by
      rintro _ rfl
      exact law_l0 n l G e hl r _ 0 _ true rfl h (by rw [List.drop_zero, Bool.true_and]; exact hr)
    by_cases c : okS l[0].f0 l[0].f1 = true
    · refine Ev.pos c (Ev.neg (by omega) (next _ ?_))
      rw [okG, okB, c, Bool.true_and]
    · refine Ev.neg c (Ev.neg (by omega) (next _ ?_))
      rw [Bool.not_eq_true] at c
      rw [okG, okB, c, Bool.false_and]
  · obtain rfl := List.eq_nil_of_length_eq_zero (show l.length = 0 by omega)
    exact Ev.neg (by simp) hr
theorem SpanGaps : caulkerlaw01_SpanGaps.Pure := by
  intro n l hw h1 h2 hg
  apply Ev.rounds
  unfold caulkerlaw01_SpanGaps.f
  have skip : Ev (fun k => caulkerlaw01_SpanGaps.j0 k n l true) true := by
    refine Ev.step (fun k => by rw [caulkerlaw01_SpanGaps.j0]) ?_
    exact Ev.pos rfl (Ev.now _)
  refine Ev.bind spans_any (Ev.pos rfl (Ev.ite (fun _ => skip) (fun hlen => ?_)))
  by_cases hbig : n > 3000
  · rw [decide_eq_true hbig]; exact skip
  · rw [decide_eq_false hbig]
    refine Ev.step (fun k => by rw [caulkerlaw01_SpanGaps.j0]) (Ev.neg (by decide) ?_)
    by_cases hn : n < 0
    · exact Ev.bind (gaps_none n hn l) (Ev.pos hn (Ev.pos rfl (Ev.now _)))
    · refine Ev.bind (gaps_any n (by omega) (by omega) l (by omega)) (Ev.neg hn ?_)
      refine law_all n l _ _ (by omega) true ?_
      unfold gtail gapsV
      by_cases hall : l.all (okG n) = true
      · rw [if_pos hall]
        refine Ev.pos hall ?_
        have hok : l.all okB = true := List.all_eq_true.2 (fun x hx => by
          have := List.all_eq_true.1 hall x hx
          unfold okG at this
          rw [Bool.and_eq_true] at this
          exact this.1)
        refine Ev.bind (sorted_any l (by omega) hok) (Ev.neg (by simp) ?_)
        by_cases ho : ordL l = true
        · rw [if_pos ho]
          have srt : Srt n 0 l := srt_of (by omega) (fun x hx => List.all_eq_true.1 hall x hx) ho (fun x hx => by
            have hm : x ∈ l := by cases l with | nil => simp at hx | cons y l => simp at hx; subst hx; exact List.mem_cons_self
            exact (okG_iff.1 (List.all_eq_true.1 hall x hm)).1)
          obtain ⟨f1, f2⟩ := gap_far srt
          have once := fun j => cnt_once (j := j) srt
          have hGl := gapL_length (l ++ [⟨n, n⟩]) 0
          rw [List.length_append, List.length_singleton] at hGl
          generalize gapL 0 (l ++ [⟨n, n⟩]) = G at *
          obtain ⟨m, rfl⟩ : ∃ m : Nat, n = (m : Int) := ⟨n.toNat, by omega⟩
          have hn3 : ((m : Int)).toNat = m := Int.toNat_natCast m
          refine Ev.pos ho (Ev.pos (by omega) (Ev.pos (by omega) (Ev.bind (Ev.now _) (Ev.pos (by rw [List.length_nil]; omega) (Ev.bind (Ev.now _) (Ev.pos (by rw [List.nil_append]; show l.length + G.length < _; omega) (Ev.bind (Ev.now _) ?_)))))))
          rw [List.nil_append, hn3]
          refine gaps_law_l1 m (by omega) G 0 (l ++ G) (by rw [List.length_append]; omega) ?_ true ?_ _ 0 _ rfl (by omega) (by rw [List.length_replicate]) ?_
          · intro s hs
            rcases List.mem_append.1 hs with hs | hs
            · have := okG_iff.1 (List.all_eq_true.1 hall s hs)
              omega
            · have := f2 s hs
              omega
          · intro ys hy1 hy2
            refine gaps_law_l3 G ys (by omega) (fun j hj => ?_) true (gaps_law_l4_all G (by omega) f1) _ 0 rfl (by omega)
            rw [hy2 j (by omega), cnt_append, once, if_pos (by omega)]
          · intro j hj
            rw [List.drop_zero, List.getD_eq_getElem?_getD, List.getElem?_replicate, if_pos hj]
            simp
        · rw [if_neg ho]
          exact Ev.neg ho (Ev.pos rfl (Ev.now _))
      · rw [if_neg hall]
        exact Ev.neg hall (Ev.pos rfl (Ev.now _))
end Go.Proofs.Ytfnemjejfccecaa.Pure
