/- The span over some holds each of them, and begins and ends where one does, as the statement SpanCovers says; every input. -/
import Derived.Test.YtfnemjejfccecaaX6
import Derived.Test.YtfnemjejfccecaaPureSpanLib
import Derived.Test.YtfnemjejfccecaaPureSpanMay
namespace Go.Proofs.Ytfnemjejfccecaa.Pure
open Go.RowKit Go.Proofs.Ytfnemjejfccecaa.X Go.Proofs.YtfnemjejfccecaaW.PrintWords Go.Proofs.YtfnemjejfccecaaW.PrintLast

def sumF : List S24 → Int → Int
  | [], n => n
  | s :: l, n => sumF l (n + lenS s.f0 s.f1)
theorem lenS_range (f t : Int) : 0 ≤ lenS f t ∧ lenS f t ≤ 65536 := by
  unfold lenS
  by_cases h : okS f t = true
  · rw [if_pos h]
    have := okS_iff.1 h
    omega
  · rw [if_neg h]
    omega
theorem sum_from (l : List S24) (hl : l.length ≤ 9223372036854775807) : ∀ (d i : Nat) (n : Int), l.length - i = d → i ≤ l.length → 0 ≤ n → n + (d : Int) * 65536 ≤ 4611686018427387904 → Ev (fun k => span_Sum.l0 k n l (l.length : Int) (i : Int)) (sumF (l.drop i) n) := by
  intro d
  induction d with
  | zero =>
    intro i n h1 h2 h3 h4
    refine Ev.step (fun k => by rw [span_Sum.l0]) (Ev.neg (by omega) ?_)
    rw [List.drop_eq_nil_of_le (by omega)]
    exact Ev.now _
  | succ d ih =>
    intro i n h1 h2 h3 h4
    have hi : i < l.length := by omega
    refine Ev.step (fun k => by rw [span_Sum.l0]) (Ev.pos (by omega) (Ev.pos (by omega) (Ev.pos (by omega) ?_)))
    rw [rd24_lt hi, wrap_succ hi hl, List.drop_eq_getElem_cons hi, sumF]
    have hr := lenS_range l[i].f0 l[i].f1
    refine Ev.bind (len_any _ _) ?_
    rw [wrap_id (by omega) (by omega)]
    exact ih (i + 1) _ (by omega) (by omega) (by omega) (by omega)
theorem sum_any (l : List S24) (hl : l.length ≤ 1000) : Ev (fun k => span_Sum.f k l) (sumF l 0) := by
  have := sum_from l (by omega) _ 0 0 rfl (by omega) (by omega) (by omega)
  simpa [span_Sum.f] using this
theorem holds_any (f t f' t' : Int) : Ev (fun k => span_Holds.f k f t f' t') (okS f t && okS f' t' && decide (f ≤ f') && decide (t' ≤ t)) := by
  unfold span_Holds.f
  refine Ev.bind (right_two f t f' t') ?_
  by_cases h : (okS f t && okS f' t') = true
  · refine Ev.pos h ?_
    rw [h]
    by_cases h1 : f ≤ f'
    · exact Ev.pos h1 (Ev.cast (Ev.now _) (by simp [h1]))
    · exact Ev.neg h1 (Ev.cast (Ev.now _) (by simp [h1]))
  · refine Ev.neg h (Ev.cast (Ev.now _) ?_)
    rw [Bool.not_eq_true] at h
    simp [h]
theorem mn_eq (a b : Int) : mn a b = if b < a then b else a := rfl
theorem mx_eq (a b : Int) : mx a b = if a < b then b else a := rfl
theorem coverF_spec : ∀ (l : List S24) (f t : Int), (coverF l f t).1 ≤ f ∧ t ≤ (coverF l f t).2 ∧ (∀ x ∈ l, (coverF l f t).1 ≤ x.f0 ∧ x.f1 ≤ (coverF l f t).2) ∧ ((coverF l f t).1 = f ∨ ∃ x ∈ l, x.f0 = (coverF l f t).1) ∧ ((coverF l f t).2 = t ∨ ∃ x ∈ l, x.f1 = (coverF l f t).2)
  | [], f, t => by simp [coverF]
  | s :: l, f, t => by
    obtain ⟨h1, h2, h3, h4, h5⟩ := coverF_spec l (mn f s.f0) (mx t s.f1)
    rw [coverF]
    have hm : mn f s.f0 ≤ f ∧ mn f s.f0 ≤ s.f0 ∧ (mn f s.f0 = f ∨ mn f s.f0 = s.f0) := by
      rw [mn_eq]
      by_cases e : s.f0 < f
      · rw [if_pos e]; omega
      · rw [if_neg e]; omega
    have hx : t ≤ mx t s.f1 ∧ s.f1 ≤ mx t s.f1 ∧ (mx t s.f1 = t ∨ mx t s.f1 = s.f1) := by
      rw [mx_eq]
      by_cases e : t < s.f1
      · rw [if_pos e]; omega
      · rw [if_neg e]; omega
    generalize mn f s.f0 = m at *
    generalize mx t s.f1 = n at *
    refine ⟨by omega, by omega, ?_, ?_, ?_⟩
    · intro x hx
      rcases List.mem_cons.1 hx with rfl | hx
      · omega
      · exact h3 x hx
    · rcases h4 with h4 | ⟨x, hx, h4⟩
      · rcases hm.2.2 with e | e
        · exact .inl (by omega)
        · exact .inr ⟨s, List.mem_cons_self, by omega⟩
      · exact .inr ⟨x, List.mem_cons_of_mem _ hx, h4⟩
    · rcases h5 with h5 | ⟨x, hx, h5⟩
      · rcases hx.2.2 with e | e
        · exact .inl (by omega)
        · exact .inr ⟨s, List.mem_cons_self, by omega⟩
      · exact .inr ⟨x, List.mem_cons_of_mem _ hx, h5⟩

theorem covers_l0 (l0 l : List S24) (ok : Bool) (cf ct : Int) (r : Bool) (hl : l.length ≤ 1000) : ∀ (d i : Nat) (g : Bool) (n : Int), l.length - i = d → i ≤ l.length → 0 ≤ n → n + (d : Int) * 65536 ≤ 4611686018427387904 →
    Ev (fun k => (span_Sum.f k l0).bind fun t => if t = sumF (l.drop i) n then caulkerlaw01_SpanCovers.j1 k l0 ok (ok != (g && (l.drop i).all okB)) cf ct else caulkerlaw01_SpanCovers.j1 k l0 ok true cf ct) r →
    Ev (fun k => caulkerlaw01_SpanCovers.l0 k l0 ok g n l (l.length : Int) (i : Int) cf ct) r := by
  intro d
  induction d with
  | zero =>
    intro i g n h1 h2 h3 h4 hk
    refine Ev.step (fun k => by rw [caulkerlaw01_SpanCovers.l0]) (Ev.neg (by omega) ?_)
    rw [List.drop_eq_nil_of_le (by omega)] at hk
    simpa [sumF] using hk
  | succ d ih =>
    intro i g n h1 h2 h3 h4 hk
    have hi : i < l.length := by omega
    refine Ev.step (fun k => by rw [caulkerlaw01_SpanCovers.l0]) (Ev.pos (by omega) (Ev.pos (by omega) (Ev.pos (by omega) ?_)))
    rw [List.drop_eq_getElem_cons hi, sumF, List.all_cons] at hk
    rw [rd24_lt hi, wrap_succ hi (by omega)]
    have hr := lenS_range l[i].f0 l[i].f1
    have next : Ev (fun k => caulkerlaw01_SpanCovers.l0 k l0 ok (g && okB l[i]) (n + lenS l[i].f0 l[i].f1) l (l.length : Int) ((i + 1 : Nat) : Int) cf ct) r :=
      ih (i + 1) _ _ (by omega) (by omega) (by omega) (by omega) (by rw [Bool.and_assoc]; exact hk)
    have step : ∀ g' : Bool, g' = (g && okB l[i]) → Ev (fun k => if okS l[i].f0 l[i].f1 = true then caulkerlaw01_SpanCovers.l0 k l0 ok g' (wrap64 (n + wrap64 (l[i].f1 - l[i].f0))) l (l.length : Int) ((i + 1 : Nat) : Int) cf ct else caulkerlaw01_SpanCovers.l0 k l0 ok g' n l (l.length : Int) ((i + 1 : Nat) : Int) cf ct) r := by
      rintro g' rfl
      by_cases h : okS l[i].f0 l[i].f1 = true
      · refine Ev.pos h ?_
        have h' := okS_iff.1 h
        have e : lenS l[i].f0 l[i].f1 = l[i].f1 - l[i].f0 := if_pos h
        rw [wrap_id (i := l[i].f1 - l[i].f0) (by omega) (by omega), ← e, wrap_id (by omega) (by omega)]
        exact next
      · refine Ev.neg h ?_
        have e : lenS l[i].f0 l[i].f1 = 0 := if_neg h
        rw [e, Int.add_zero] at next
        exact next
    cases g with
    | true => exact Ev.pos rfl (Ev.bind (Ev.eq (may_any _ _)) (Ev.bind (Ev.eq (may_any _ _)) (step _ (by simp [okB]))))
    | false => exact Ev.neg (by decide) (Ev.bind (Ev.eq (may_any _ _)) (step false (by simp)))

theorem covers_l1 (l : List S24) (cf ct : Int) (hl : l.length ≤ 1000) (hh : ∀ s ∈ l, okS cf ct = true ∧ okB s = true ∧ cf ≤ s.f0 ∧ s.f1 ≤ ct) : ∀ (d i : Nat) (a b : Bool), l.length - i = d → i ≤ l.length →
    Ev (fun k => caulkerlaw01_SpanCovers.l1 k a b l (l.length : Int) (i : Int) cf ct) ((a || (l.drop i).any fun s => s.f0 == cf) && (b || (l.drop i).any fun s => s.f1 == ct)) := by
  intro d
  induction d with
  | zero =>
    intro i a b h1 h2
    refine Ev.step (fun k => by rw [caulkerlaw01_SpanCovers.l1]) (Ev.neg (by omega) ?_)
    rw [List.drop_eq_nil_of_le (by omega)]
    cases a with
    | true => exact Ev.pos rfl (Ev.cast (Ev.now _) (by simp))
    | false => exact Ev.neg (by decide) (Ev.cast (Ev.now _) (by simp))
  | succ d ih =>
    intro i a b h1 h2
    have hi : i < l.length := by omega
    refine Ev.step (fun k => by rw [caulkerlaw01_SpanCovers.l1]) (Ev.pos (by omega) (Ev.pos (by omega) (Ev.pos (by omega) ?_)))
    rw [rd24_lt hi, wrap_succ hi (by omega), List.drop_eq_getElem_cons hi, List.any_cons, List.any_cons]
    obtain ⟨e1, e2, e3, e4⟩ := hh l[i] (List.getElem_mem hi)
    rw [okB] at e2
    refine Ev.bind (holds_any _ _ _ _) (Ev.pos (by simp [e1, e2, e3, e4]) ?_)
    have next := fun a b => ih (i + 1) a b (by omega) (by omega)
    cases a with
    | true =>
      refine Ev.pos rfl ?_
      cases b with
      | true => exact Ev.pos rfl (Ev.cast (next _ _) (by simp))
      | false => exact Ev.neg (by decide) (Ev.cast (next _ _) (by simp))
    | false =>
      refine Ev.neg (by decide) ?_
      cases b with
      | true => exact Ev.pos rfl (Ev.cast (next _ _) (by simp))
      | false => exact Ev.neg (by decide) (Ev.cast (next _ _) (by simp))

theorem SpanCovers : caulkerlaw01_SpanCovers.Pure := by
  intro l h1 h2 hg
  apply Ev.rounds
  unfold caulkerlaw01_SpanCovers.f
  refine Ev.bind spans_any (Ev.pos rfl ?_)
  by_cases hb : (l.length : Int) > 40
  · exact Ev.pos hb (Ev.now _)
  refine Ev.neg hb ?_
  have hl : l.length ≤ 1000 := by omega
  have hs := sum_any l hl
  by_cases hok : l ≠ [] ∧ l.all okB = true
  · obtain ⟨hne, hall⟩ := hok
    obtain ⟨s, l', rfl⟩ := List.exists_cons_of_ne_nil hne
    obtain ⟨c1, c2, c3, c4, c5⟩ := coverF_spec (s :: l') s.f0 s.f1
    refine Ev.bind (cover_yes s l' (by omega) hall) ?_
    refine covers_l0 _ _ _ _ _ true hl _ 0 _ 0 rfl (by omega) (by omega) (by omega) ?_
    refine Ev.bind hs (Ev.pos rfl ?_)
    have hp : decide (((s :: l').length : Int) > 0) = true := by simp
    rw [hp, List.drop_zero, hall]
    refine Ev.step (fun k => by rw [caulkerlaw01_SpanCovers.j1]) (Ev.neg (by simp) (Ev.pos rfl ?_))
    have hall' : ∀ x ∈ s :: l', okB x = true := List.all_eq_true.1 hall
    have hcok : okS (coverF (s :: l') s.f0 s.f1).1 (coverF (s :: l') s.f0 s.f1).2 = true := by
      have h0 := okS_iff.1 (hall' s List.mem_cons_self)
      have f1 : 0 ≤ (coverF (s :: l') s.f0 s.f1).1 := by
        rcases c4 with c4 | ⟨x, hx, c4⟩
        · omega
        · have := okS_iff.1 (hall' x hx); omega
      have f2 : (coverF (s :: l') s.f0 s.f1).2 ≤ 65536 := by
        rcases c5 with c5 | ⟨x, hx, c5⟩
        · omega
        · have := okS_iff.1 (hall' x hx); omega
      exact okS_iff.2 ⟨f1, by omega, f2⟩
    refine Ev.cast (covers_l1 (s :: l') _ _ hl (fun x hx => ⟨hcok, hall' x hx, c3 x hx⟩) _ 0 false false rfl (by omega)) ?_
    rw [List.drop_zero, Bool.false_or, Bool.false_or, Bool.and_eq_true, List.any_eq_true, List.any_eq_true]
    constructor
    · rcases c4 with c4 | ⟨x, hx, c4⟩
      · exact ⟨s, List.mem_cons_self, by simp [c4]⟩
      · exact ⟨x, hx, by simp [c4]⟩
    · rcases c5 with c5 | ⟨x, hx, c5⟩
      · exact ⟨s, List.mem_cons_self, by simp [c5]⟩
      · exact ⟨x, hx, by simp [c5]⟩
  · have hno : l = [] ∨ l.all okB = false := by
      by_cases e : l = []
      · exact .inl e
      · refine .inr ?_
        rw [← Bool.not_eq_true]
        exact fun h => hok ⟨e, h⟩
    refine Ev.bind (cover_no l (by omega) hno) ?_
    refine covers_l0 _ _ _ _ _ true hl _ 0 _ 0 rfl (by omega) (by omega) (by omega) ?_
    refine Ev.bind hs (Ev.pos rfl ?_)
    have hp : (decide ((l.length : Int) > 0) && (l.drop 0).all okB) = false := by
      rcases hno with rfl | h
      · rfl
      · rw [List.drop_zero, h, Bool.and_false]
    rw [hp]
    refine Ev.step (fun k => by rw [caulkerlaw01_SpanCovers.j1]) ?_
    exact Ev.neg (by decide) (Ev.neg (by decide) (Ev.now _))
end Go.Proofs.Ytfnemjejfccecaa.Pure
