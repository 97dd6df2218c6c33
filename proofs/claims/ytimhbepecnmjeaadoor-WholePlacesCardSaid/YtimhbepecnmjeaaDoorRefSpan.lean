/- What the functions of the package span answer, as plain facts about numbers and lists; no condition beyond the sizes named. -/
import Derived.Test.YtimhbepecnmjeaaDoorEvKit
import Derived.Test.YtimhbepecnmjeaaDoorX9
import Derived.Test.YtimhbepecnmjeaaDoorX14
import Derived.Test.YtimhbepecnmjeaaDoorX15
import Derived.Test.YtimhbepecnmjeaaDoorX16
import Derived.Test.YtimhbepecnmjeaaDoorX20
namespace Go.Proofs.YtimhbepecnmjeaaDoor.Sp
open Go.RowKit Go.Proofs.YtimhbepecnmjeaaDoor.X Go.Proofs.YtimhbepecnmjeaaDoorW.PrintWords Go.Proofs.YtimhbepecnmjeaaDoorW.PrintLast
set_option linter.unusedVariables false
set_option linter.unusedSimpArgs false
/-- May a span be? -/
def okS (f t : Int) : Bool := decide (0 ≤ f) && (decide (f ≤ t) && decide (t ≤ 65536))
def okB (s : S24) : Bool := okS s.f0 s.f1
theorem okS_iff {f t : Int} : okS f t = true ↔ 0 ≤ f ∧ f ≤ t ∧ t ≤ 65536 := by simp [okS]
theorem okS_not {f t : Int} : okS f t = false ↔ ¬ (0 ≤ f ∧ f ≤ t ∧ t ≤ 65536) := by rw [← okS_iff]; simp

theorem check_yes {f t n : Int} (h : 0 ≤ f ∧ f ≤ t ∧ t ≤ n ∧ n ≤ 65536) : span_Check.f f t n = some 0 := by
  unfold span_Check.f
  rw [if_neg (by omega), if_neg (by omega), if_neg (by omega), if_neg (by omega), if_neg (by omega)]
theorem check_no {f t n : Int} (h : ¬ (0 ≤ f ∧ f ≤ t ∧ t ≤ n ∧ n ≤ 65536)) : span_Check.f f t n = some 1 := by
  unfold span_Check.f
  by_cases h1 : n < 0
  · rw [if_pos h1]
  · rw [if_neg h1]
    by_cases h2 : n > 65536
    · rw [if_pos h2]
    · rw [if_neg h2]
      by_cases h3 : f < 0
      · rw [if_pos h3]
      · rw [if_neg h3]
        by_cases h4 : t < f
        · rw [if_pos h4]
        · rw [if_neg h4, if_pos (by omega)]
theorem check_any (f t n : Int) : span_Check.f f t n = some (if 0 ≤ f ∧ f ≤ t ∧ t ≤ n ∧ n ≤ 65536 then 0 else 1) := by
  by_cases h : 0 ≤ f ∧ f ≤ t ∧ t ≤ n ∧ n ≤ 65536
  · rw [if_pos h, check_yes h]
  · rw [if_neg h, check_no h]

theorem rd24_lt {l : List S24} {i : Nat} (h : i < l.length) : rd_T24 l (i : Int) = l[i] := by
  unfold rd_T24
  rw [Int.toNat_natCast, List.getD_eq_getElem?_getD, List.getElem?_eq_getElem h]
  rfl

theorem right_from (l : List S24) (hl : l.length ≤ 9223372036854775807) : ∀ (d i : Nat), l.length - i = d → i ≤ l.length → Ev (fun k => span_right.l0 k l (l.length : Int) (i : Int)) ((l.drop i).all okB) := by
  intro d
  induction d with
  | zero =>
    intro i h1 h2
    refine Ev.step (fun k => by rw [span_right.l0]) (Ev.neg (by omega) ?_)
    rw [List.drop_eq_nil_of_le (by omega)]
    exact Ev.eq rfl
  | succ d ih =>
    intro i h1 h2
    have hi : i < l.length := by omega
    refine Ev.step (fun k => by rw [span_right.l0]) (Ev.pos (by omega) (Ev.pos (by omega) (Ev.pos (by omega) ?_)))
    rw [rd24_lt hi, wrap_succ hi hl, List.drop_eq_getElem_cons hi, List.all_cons]
    by_cases h : okB l[i] = true
    · have h' := h
      rw [okB, okS_iff] at h'
      refine Ev.bind (Ev.eq (check_yes ⟨h'.1, h'.2.1, h'.2.2, by omega⟩)) (Ev.pos rfl ?_)
      rw [h, Bool.true_and]
      exact ih (i + 1) (by omega) (by omega)
    · rw [Bool.not_eq_true] at h
      have h' := h
      rw [okB, okS_not] at h'
      refine Ev.bind (Ev.eq (check_no (by omega))) (Ev.neg (by decide) ?_)
      rw [h, Bool.false_and]
      exact Ev.eq rfl
theorem right_any (l : List S24) (hl : l.length ≤ 9223372036854775807) : Ev (fun k => span_right.f k l) (l.all okB) := by
  have := right_from l hl _ 0 rfl (by omega)
  simpa [span_right.f] using this
theorem right_one (f t : Int) : Ev (fun k => span_right.f k [⟨f, t⟩]) (okS f t) := by
  have := right_any [⟨f, t⟩] (by simp)
  simpa [okB] using this
theorem right_two (f t f' t' : Int) : Ev (fun k => span_right.f k [⟨f, t⟩, ⟨f', t'⟩]) (okS f t && okS f' t') := by
  have := right_any [⟨f, t⟩, ⟨f', t'⟩] (by simp)
  simpa [okB] using this

def lenS (f t : Int) : Int := if okS f t = true then t - f else 0
theorem len_any (f t : Int) : Ev (fun k => span_Len.f k f t) (lenS f t) := by
  unfold span_Len.f lenS
  refine Ev.bind (right_one f t) ?_
  by_cases h : okS f t = true
  · have h' := okS_iff.1 h
    rw [show (if okS f t = true then t - f else 0) = t - f from if_pos h]
    rw [wrap_id (by omega) (by omega)]
    exact Ev.pos h (Ev.eq rfl)
  · rw [show (if okS f t = true then t - f else 0) = 0 from if_neg h]
    exact Ev.neg h (Ev.eq rfl)

def apartS (f t f' t' : Int) : Bool := okS f t && okS f' t' && !(decide (f = f') && decide (t = t') && decide (t ≤ f)) && (decide (t ≤ f') || decide (t' ≤ f))
theorem apart_any (f t f' t' : Int) : Ev (fun k => span_Apart.f k f t f' t') (apartS f t f' t') := by
  unfold span_Apart.f apartS
  refine Ev.bind (right_two f t f' t') ?_
  by_cases h : (okS f t && okS f' t') = true
  · refine Ev.pos h ?_
    rw [h]
    rw [Bool.and_eq_true] at h
    have h' := okS_iff.1 h.1
    by_cases e : f = f' ∧ t = t'
    · refine Ev.pos (by simp [e.1, e.2]) (Ev.bind (len_any f t) ?_)
      have hlen : lenS f t = t - f := by unfold lenS; rw [if_pos h.1]
      rw [hlen]
      by_cases z : t = f
      · refine Ev.pos (by omega) (Ev.cast (Ev.eq rfl) ?_)
        have : t ≤ f := by omega
        simp [e.1, e.2, z ▸ e.1 ▸ this]
      · refine Ev.neg (by omega) (Ev.neg (by omega) (Ev.cast (Ev.eq rfl) ?_))
        have z1 : ¬ t ≤ f := by omega
        have z2 : ¬ t ≤ f' := by omega
        simp [z1, z2]
    · have e1 : (decide (f = f') && decide (t = t') && decide (t ≤ f)) = false := by
        by_cases a : f = f'
        · by_cases b : t = t'
          · exact absurd ⟨a, b⟩ e
          · simp [b]
        · simp [a]
      rw [e1]
      refine Ev.neg (by simpa using fun a b => e ⟨a, b⟩) ?_
      by_cases a : t ≤ f'
      · refine Ev.pos a (Ev.cast (Ev.eq rfl) ?_)
        simp [a]
      · refine Ev.neg a (Ev.cast (Ev.eq rfl) ?_)
        simp [a]
  · refine Ev.neg h (Ev.cast (Ev.eq rfl) ?_)
    rw [Bool.not_eq_true] at h
    simp [h]

theorem text_yes {s : ByteArray} {f t : Int} (h : 0 ≤ f ∧ f ≤ t ∧ t ≤ s.size ∧ (s.size : Int) ≤ 65536) : span_Text.f s f t = some (s.extract f.toNat t.toNat, 0) := by
  unfold span_Text.f
  rw [check_yes h, Option.bind_some, if_pos rfl, if_pos (by omega), if_pos (by omega), if_pos (by omega)]
theorem text_no {s : ByteArray} {f t : Int} (h : ¬ (0 ≤ f ∧ f ≤ t ∧ t ≤ s.size ∧ (s.size : Int) ≤ 65536)) : span_Text.f s f t = some (⟨#[]⟩, 1) := by
  unfold span_Text.f
  rw [check_no h, Option.bind_some, if_neg (by decide)]

/-! The least span over some. -/
def coverF : List S24 → Int → Int → Int × Int
  | [], f, t => (f, t)
  | s :: l, f, t => coverF l (mn f s.f0) (mx t s.f1)
theorem cover_from (l : List S24) (hl : l.length ≤ 9223372036854775807) : ∀ (d i : Nat) (f t : Int), l.length - i = d → i ≤ l.length → Ev (fun k => span_Cover.l0 k l (l.length : Int) (i : Int) f t) ((coverF (l.drop i) f t).1, (coverF (l.drop i) f t).2, true) := by
  intro d
  induction d with
  | zero =>
    intro i f t h1 h2
    refine Ev.step (fun k => by rw [span_Cover.l0]) (Ev.neg (by omega) ?_)
    rw [List.drop_eq_nil_of_le (by omega)]
    exact Ev.eq rfl
  | succ d ih =>
    intro i f t h1 h2
    have hi : i < l.length := by omega
    refine Ev.step (fun k => by rw [span_Cover.l0]) (Ev.pos (by omega) (Ev.pos (by omega) (Ev.pos (by omega) ?_)))
    rw [rd24_lt hi, wrap_succ hi hl, List.drop_eq_getElem_cons hi, coverF]
    exact ih (i + 1) _ _ (by omega) (by omega)
theorem cover_yes (s : S24) (l : List S24) (hl : (s :: l).length ≤ 9223372036854775807) (h : (s :: l).all okB = true) :
    Ev (fun k => span_Cover.f k (s :: l)) ((coverF (s :: l) s.f0 s.f1).1, (coverF (s :: l) s.f0 s.f1).2, true) := by
  unfold span_Cover.f
  refine Ev.neg (by simp; omega) (Ev.bind (right_any _ hl) ?_)
  rw [h]
  refine Ev.step (fun k => by rw [span_Cover.j0]) (Ev.neg (by decide) (Ev.pos (by simp) ?_))
  exact cover_from (s :: l) hl _ 0 s.f0 s.f1 rfl (by omega)
theorem cover_no (l : List S24) (hl : l.length ≤ 9223372036854775807) (h : l = [] ∨ l.all okB = false) : Ev (fun k => span_Cover.f k l) (0, 0, false) := by
  unfold span_Cover.f
  by_cases e : l = []
  · subst e
    refine Ev.pos rfl (Ev.step (fun k => by rw [span_Cover.j0]) (Ev.pos rfl (Ev.eq rfl)))
  · have h' : l.all okB = false := by rcases h with h | h; exact absurd h e; exact h
    have : 0 < l.length := List.length_pos_iff.2 e
    refine Ev.neg (by omega) (Ev.bind (right_any _ hl) ?_)
    rw [h']
    refine Ev.step (fun k => by rw [span_Cover.j0]) ?_
    exact Ev.pos rfl (Ev.eq rfl)

theorem wrap_pred {i n : Nat} (h : i < n) (hn : n ≤ 9223372036854775807) : wrap64 (((i + 1 : Nat) : Int) - 1) = (i : Int) := by
  rw [wrap_id (by omega) (by omega)]
  omega
theorem wrap_one : wrap64 (0 + 1) = ((0 + 1 : Nat) : Int) := by
  rw [wrap_id (by omega) (by omega)]
  rfl
def okG (n : Int) (s : S24) : Bool := okB s && decide (s.f1 ≤ n)
def ordG (p s : S24) : Bool := decide (p.f1 ≤ s.f0) && !(p.f0 == s.f0 && p.f1 == s.f1 && p.f0 == p.f1)
def ordH (x : S24) : List S24 → Bool
  | [] => true
  | y :: _ => ordG x y
def ordL : List S24 → Bool
  | [] => true
  | x :: l => ordH x l && ordL l
theorem ordL_two {x y : S24} {l : List S24} : ordL (x :: y :: l) = (ordG x y && ordL (y :: l)) := rfl
theorem okG_iff {n : Int} {s : S24} : okG n s = true ↔ 0 ≤ s.f0 ∧ s.f0 ≤ s.f1 ∧ s.f1 ≤ 65536 ∧ s.f1 ≤ n := by
  unfold okG okB
  rw [Bool.and_eq_true, okS_iff, decide_eq_true_iff]
  omega

/-! Sorted. -/
theorem sorted_step (l : List S24) (hl : l.length ≤ 9223372036854775807) (hok : l.all okB = true) : ∀ (d i : Nat), l.length - i = d → i < l.length → Ev (fun k => span_Sorted.l0 k l l (l.length : Int) ((i + 1 : Nat) : Int)) (ordL (l.drop i)) := by
  intro d
  induction d with
  | zero => intro i h1 h2; omega
  | succ d ih =>
    intro i h1 h2
    refine Ev.step (fun k => by rw [span_Sorted.l0]) ?_
    by_cases h : i + 1 < l.length
    · refine Ev.pos (by omega) (Ev.pos (by omega) (Ev.pos (by omega) ?_))
      have ho := List.all_eq_true.1 hok
      have o1 : okS l[i].f0 l[i].f1 = true := ho _ (List.getElem_mem h2)
      have o2 : okS l[i + 1].f0 l[i + 1].f1 = true := ho _ (List.getElem_mem h)
      rw [wrap_pred h2 hl, rd24_lt h2, rd24_lt h, wrap_succ h hl]
      refine Ev.bind (right_one _ _) (Ev.pos o2 (Ev.pos (by omega) (Ev.pos (by omega) (Ev.pos (by omega) ?_))))
      have ed : l.drop i = l[i] :: l[i + 1] :: l.drop (i + 1 + 1) := by rw [List.drop_eq_getElem_cons h2, List.drop_eq_getElem_cons h]
      have ed2 : l.drop (i + 1) = l[i + 1] :: l.drop (i + 1 + 1) := List.drop_eq_getElem_cons h
      have next := ih (i + 1) (by omega) h
      rw [ed2] at next
      rw [ed, ordL_two]
      by_cases h3 : l[i].f1 > l[i + 1].f0
      · refine Ev.pos h3 (Ev.cast (Ev.eq rfl) ?_)
        rw [ordG, show decide (l[i].f1 ≤ l[i + 1].f0) = false by simp; omega, Bool.false_and, Bool.false_and]
      · refine Ev.neg h3 (Ev.bind (apart_any _ _ _ _) ?_)
        have ea : apartS l[i].f0 l[i].f1 l[i + 1].f0 l[i + 1].f1 = ordG l[i] l[i + 1] := by
          have a := okS_iff.1 o1
          unfold apartS ordG
          rw [o1, o2, Bool.true_and, Bool.true_and, Bool.eq_iff_iff]
          simp only [Bool.and_eq_true, Bool.or_eq_true, Bool.not_eq_true', decide_eq_true_eq, decide_eq_false_iff_not, beq_iff_eq, ← Bool.not_eq_true]
          omega
        rw [ea]
        by_cases hg : ordG l[i] l[i + 1] = true
        · refine Ev.pos hg ?_
          rw [hg, Bool.true_and]
          exact next
        · refine Ev.neg hg (Ev.cast (Ev.eq rfl) ?_)
          rw [Bool.not_eq_true] at hg
          rw [hg, Bool.false_and]
    · refine Ev.neg (by omega) (Ev.cast (Ev.eq rfl) ?_)
      rw [List.drop_eq_getElem_cons h2, List.drop_eq_nil_of_le (by omega)]
      rfl
theorem sorted_any (l : List S24) (hl : l.length ≤ 9223372036854775807) (hok : l.all okB = true) : Ev (fun k => span_Sorted.f k l) (ordL l) := by
  unfold span_Sorted.f
  refine Ev.step (fun k => by rw [span_Sorted.l0]) ?_
  by_cases h : 0 < l.length
  · refine Ev.pos (by omega) (Ev.pos (by omega) (Ev.pos (by omega) ?_))
    have r0 : rd_T24 l 0 = l[0] := rd24_lt (i := 0) h
    rw [r0, wrap_one]
    have o : okS l[0].f0 l[0].f1 = true := List.all_eq_true.1 hok _ (List.getElem_mem h)
    refine Ev.bind (right_one _ _) (Ev.pos o (Ev.neg (by omega) ?_))
    have := sorted_step l hl hok _ 0 rfl h
    rw [List.drop_zero] at this
    exact this
  · obtain rfl := List.eq_nil_of_length_eq_zero (show l.length = 0 by omega)
    exact Ev.neg (by simp) (Ev.eq rfl)

/-! Gaps. -/
def gapL : Int → List S24 → List S24
  | _, [] => []
  | at_, s :: l => (if at_ < s.f0 then [⟨at_, s.f0⟩] else []) ++ gapL s.f1 l
theorem gapL_length : ∀ (l : List S24) (at_ : Int), (gapL at_ l).length ≤ l.length
  | [], _ => Nat.le_refl _
  | s :: l, at_ => by
    have := gapL_length l s.f1
    rw [gapL, List.length_append, List.length_cons]
    by_cases h : at_ < s.f0
    · rw [if_pos h, List.length_singleton]; omega
    · rw [if_neg h, List.length_nil]; omega
theorem gaps_l1 (L : List S24) (hL : L.length ≤ 1000000) : ∀ (d i : Nat) (at_ : Int) (out : List S24), L.length - i = d → i ≤ L.length → out.length ≤ i → Ev (fun k => span_Gaps.l1 k out at_ L (L.length : Int) (i : Int)) (out ++ gapL at_ (L.drop i), 0) := by
  intro d
  induction d with
  | zero =>
    intro i at_ out h1 h2 h3
    refine Ev.step (fun k => by rw [span_Gaps.l1]) (Ev.neg (by omega) (Ev.cast (Ev.eq rfl) ?_))
    rw [List.drop_eq_nil_of_le (by omega), gapL, List.append_nil]
  | succ d ih =>
    intro i at_ out h1 h2 h3
    have hi : i < L.length := by omega
    refine Ev.step (fun k => by rw [span_Gaps.l1]) (Ev.pos (by omega) (Ev.pos (by omega) (Ev.pos (by omega) ?_)))
    rw [rd24_lt hi, wrap_succ hi (by omega), List.drop_eq_getElem_cons hi, gapL]
    by_cases h : at_ < L[i].f0
    · refine Ev.pos h (Ev.pos (by omega) ?_)
      rw [if_pos h, ← List.append_assoc]
      exact ih (i + 1) _ _ (by omega) (by omega) (by rw [List.length_append, List.length_singleton]; omega)
    · refine Ev.neg h ?_
      rw [if_neg h, List.nil_append]
      exact ih (i + 1) _ _ (by omega) (by omega) (by omega)
def gapsV (n : Int) (l : List S24) : List S24 × Int := if l.all (okG n) = true then (if ordL l = true then (gapL 0 (l ++ [⟨n, n⟩]), 0) else ([], 7)) else ([], 1)
theorem gaps_l0 (n : Int) (hn : 0 ≤ n) (hn2 : n ≤ 65536) (l : List S24) (hl : l.length ≤ 100000) : ∀ (d i : Nat), l.length - i = d → i ≤ l.length → (∀ j (hj : j < i) (hj2 : j < l.length), okG n l[j] = true) → Ev (fun k => span_Gaps.l0 k n l 0 l (l.length : Int) (i : Int)) (gapsV n l) := by
  intro d
  induction d with
  | zero =>
    intro i h1 h2 h3
    refine Ev.step (fun k => by rw [span_Gaps.l0]) (Ev.neg (by omega) ?_)
    have hall : l.all (okG n) = true := List.all_eq_true.2 (fun x hx => by
      obtain ⟨j, hj, rfl⟩ := List.getElem_of_mem hx
      exact h3 j (by omega) hj)
    have hok : l.all okB = true := List.all_eq_true.2 (fun x hx => by
      have := List.all_eq_true.1 hall x hx
      unfold okG at this
      rw [Bool.and_eq_true] at this
      exact this.1)
    refine Ev.bind (sorted_any l (by omega) hok) ?_
    unfold gapsV
    rw [if_pos hall]
    by_cases ho : ordL l = true
    · rw [if_pos ho]
      refine Ev.pos ho (Ev.bind (Ev.eq (by rw [api_Span.f, if_pos (by omega)])) (Ev.pos (by omega) (Ev.bind (Ev.eq rfl) ?_)))
      have := gaps_l1 (l ++ [⟨n, n⟩]) (by rw [List.length_append, List.length_singleton]; omega) _ 0 0 [] rfl (by omega) (by simp)
      rw [List.nil_append, List.drop_zero] at this
      exact this
    · rw [if_neg ho]
      exact Ev.neg ho (Ev.eq rfl)
  | succ d ih =>
    intro i h1 h2 h3
    have hi : i < l.length := by omega
    refine Ev.step (fun k => by rw [span_Gaps.l0]) (Ev.pos (by omega) (Ev.pos (by omega) (Ev.pos (by omega) ?_)))
    rw [rd24_lt hi, wrap_succ hi (by omega)]
    refine Ev.bind (Ev.eq (check_any _ _ _)) ?_
    by_cases hc : okG n l[i] = true
    · have hc' := okG_iff.1 hc
      refine Ev.pos (by rw [if_pos ⟨hc'.1, hc'.2.1, hc'.2.2.2, hn2⟩]) (ih (i + 1) (by omega) (by omega) ?_)
      intro j hj hj2
      by_cases e : j = i
      · subst e; exact hc
      · exact h3 j (by omega) hj2
    · have hc' : ¬ (0 ≤ l[i].f0 ∧ l[i].f0 ≤ l[i].f1 ∧ l[i].f1 ≤ n ∧ n ≤ 65536) := fun h => hc (okG_iff.2 ⟨h.1, h.2.1, by omega, h.2.2.1⟩)
      refine Ev.neg (by rw [if_neg hc']; decide) (Ev.cast (Ev.eq rfl) ?_)
      unfold gapsV
      rw [if_neg hc', if_neg (fun h => hc (List.all_eq_true.1 h _ (List.getElem_mem hi)))]
theorem gaps_any (n : Int) (hn : 0 ≤ n) (hn2 : n ≤ 65536) (l : List S24) (hl : l.length ≤ 100000) : Ev (fun k => span_Gaps.f k n l) (gapsV n l) := by
  unfold span_Gaps.f
  refine Ev.neg (by omega) (Ev.step (fun k => by rw [span_Gaps.j0]) (Ev.neg (by simp; omega) ?_))
  exact gaps_l0 n hn hn2 l hl _ 0 rfl (by omega) (fun j hj => by omega)
theorem gaps_none (n : Int) (hn : n < 0) (l : List S24) : Ev (fun k => span_Gaps.f k n l) ([], 1) := by
  unfold span_Gaps.f
  exact Ev.pos hn (Ev.step (fun k => by rw [span_Gaps.j0]) (Ev.pos rfl (Ev.eq rfl)))

end Go.Proofs.YtimhbepecnmjeaaDoor.Sp
