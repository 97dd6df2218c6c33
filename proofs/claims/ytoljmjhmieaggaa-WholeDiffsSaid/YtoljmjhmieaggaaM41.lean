/- Edits out of stretches that stand in both texts: what they make, and what they cost; plain lists. -/
import Derived.Test.YtoljmjhmieaggaaEdTheory
import Derived.Test.YtoljmjhmieaggaaMyReach
import Derived.Test.YtoljmjhmieaggaaM36
import Derived.Test.YtoljmjhmieaggaaX31
import Derived.Test.YtoljmjhmieaggaaX29
import Derived.Test.YtoljmjhmieaggaaX48
section
namespace Go.Proofs.Ytoljmjhmieaggaa.Ed
open Go.Diff
/-- The edits between stretches, from (i, j) on; the last stretch is the ends. -/
def mk (n : Nat) (y : List UInt8) : Nat → Nat → List (Nat × Nat × Nat) → List E
  | _, _, [] => []
  | i, j, (a, b, s) :: l => (if i < a ∨ j < b then [⟨n + i, n + a, (y.drop j).take (b - j)⟩] else []) ++ mk n y (a + s) (b + s) l
theorem app_skip (s : List UInt8) {N i j : Nat} {l : List E} (h : Val N j l) (hij : i ≤ j) : app s i l = (s.drop i).take (j - i) ++ app s j l := by
  cases l with
  | nil =>
    simp only [app]
    rw [show s.drop j = (s.drop i).drop (j - i) by rw [List.drop_drop]; congr 1; omega, List.take_append_drop]
  | cons x l =>
    simp only [app]
    obtain ⟨h1, _⟩ := h
    rw [show s.drop j = (s.drop i).drop (j - i) by rw [List.drop_drop]; congr 1; omega]
    rw [show x.a - i = (j - i) + (x.a - j) by omega, List.take_add]
    simp [List.append_assoc]
section
variable {E' : Nat → Nat → Prop} {N M n : Nat} {y : List UInt8}
theorem mk_val {A : Nat} (hA : n + N ≤ A) (hy : y.length = M) : ∀ {l : List (Nat × Nat × Nat)} {i j : Nat}, Stretches E' N M i j l → Val A (n + i) (mk n y i j (l ++ [(N, M, 0)]))
  | [], i, j, h => by
    obtain ⟨h1, h2⟩ := h
    simp only [List.nil_append, mk]
    split
    · exact ⟨Nat.le_refl _, by show n + i ≤ n + N; omega, by show n + N ≤ A; omega, by show n + N ≤ A; omega⟩
    · show n + i ≤ A; omega
  | (a, b, s) :: l, i, j, h => by
    obtain ⟨h1, h2, h3, h4, h5, h6, h7⟩ := h
    have ih := mk_val hA hy h7
    simp only [List.cons_append, mk]
    split
    · exact ⟨Nat.le_refl _, by show n + i ≤ n + a; omega, by show n + a ≤ A; omega, Val.mono ih (by show n + a ≤ n + (a + s); omega)⟩
    · exact Val.mono ih (by omega)
theorem mk_puts (hy : y.length = M) : ∀ {l : List (Nat × Nat × Nat)} {i j : Nat}, Stretches E' N M i j l → puts (mk n y i j (l ++ [(N, M, 0)])) + total l + j = M ∧ takes (mk n y i j (l ++ [(N, M, 0)])) + total l + i = N
  | [], i, j, h => by
    obtain ⟨h1, h2⟩ := h
    simp only [List.nil_append, mk, total]
    split
    · simp only [List.singleton_append, List.append_nil, puts, takes, List.length_take, List.length_drop]; omega
    · simp only [List.append_nil, puts, takes]; omega
  | (a, b, s) :: l, i, j, h => by
    obtain ⟨h1, h2, h3, h4, h5, h6, h7⟩ := h
    have ih := mk_puts hy h7
    simp only [List.cons_append, mk, total]
    split
    · simp only [List.singleton_append, puts, takes, List.length_take, List.length_drop]; omega
    · simp only [List.nil_append]; omega
theorem mk_length : ∀ (l : List (Nat × Nat × Nat)) (i j : Nat), (mk n y i j l).length ≤ l.length
  | [], _, _ => Nat.le_refl _
  | (a, b, s) :: l, i, j => by
    have := mk_length l (a + s) (b + s)
    simp only [mk, List.length_append, List.length_cons]
    split <;> simp <;> omega
theorem mk_small : ∀ (l : List (Nat × Nat × Nat)) (i j : Nat), ∀ x ∈ mk n y i j l, x.t.length ≤ y.length
  | [], _, _, x, h => by simp [mk] at h
  | (a, b, s) :: l, i, j, x, h => by
    simp only [mk, List.mem_append] at h
    rcases h with h | h
    · split at h
      · simp only [List.mem_singleton] at h
        subst h
        simp only [List.length_take, List.length_drop]
        omega
      · simp at h
    · exact mk_small l _ _ x h
/-- What they make: the other text, and what stands behind both. -/
theorem mk_app {x z s : List UInt8} (hx : x.length = N) (hy : y.length = M) (hs : s.drop n = x ++ z) (hE : ∀ i j, i < N → j < M → E' i j → x[i]? = y[j]?) : ∀ {l : List (Nat × Nat × Nat)} {i j : Nat}, Stretches E' N M i j l → app s (n + i) (mk n y i j (l ++ [(N, M, 0)])) = y.drop j ++ z := by
  have hd : ∀ i, i ≤ N → s.drop (n + i) = x.drop i ++ z := fun i hi => by
    rw [← List.drop_drop, hs, List.drop_append_of_le_length (by omega)]
  have last : ∀ (i j : Nat), i ≤ N → j ≤ M → ∀ (a b : Nat) (r : List E), i ≤ a → j ≤ b → a ≤ N → b ≤ M → Val (n + N + z.length) (n + a) r → app s (n + a) r = y.drop b ++ z → app s (n + i) ((if i < a ∨ j < b then [⟨n + i, n + a, (y.drop j).take (b - j)⟩] else []) ++ r) = y.drop j ++ z := by
    intro i j hi hj a b r h1 h2 h3 h4 hv h
    split
    · simp only [List.singleton_append, app]
      rw [Nat.sub_self, List.take_zero, List.nil_append, h, ← List.append_assoc]
      congr 1
      rw [show y.drop b = (y.drop j).drop (b - j) by rw [List.drop_drop]; congr 1; omega, List.take_append_drop]
    · have e1 : a = i := by omega
      have e2 : b = j := by omega
      rw [List.nil_append, ← e1, h, e2]
  intro l
  induction l with
  | nil =>
    intro i j h
    obtain ⟨h1, h2⟩ := h
    simp only [List.nil_append, mk]
    refine last i j h1 h2 N M [] h1 h2 (Nat.le_refl _) (Nat.le_refl _) (by show n + N ≤ _; omega) ?_
    show s.drop (n + N) = _
    rw [hd N (Nat.le_refl _), List.drop_of_length_le (by omega), List.drop_of_length_le (by omega)]
  | cons t l ih =>
    obtain ⟨a, b, st⟩ := t
    intro i j h
    obtain ⟨h1, h2, h3, h4, h5, h6, h7⟩ := h
    have ih := ih h7
    have hv := mk_val (n := n) (y := y) (A := n + N + z.length) (by omega) hy h7
    simp only [List.cons_append, mk]
    refine last i j (by omega) (by omega) a b _ h1 h2 (by omega) (by omega) (Val.mono hv (by omega)) ?_
    rw [app_skip s hv (by omega), ih, hd a (by omega), ← List.append_assoc]
    congr 1
    have e : (x.drop a ++ z).take (n + (a + st) - (n + a)) = (y.drop b).take st := by
      rw [show n + (a + st) - (n + a) = st by omega, List.take_append_of_le_length (by rw [List.length_drop]; omega)]
      refine List.ext_getElem? fun q => ?_
      rw [List.getElem?_take, List.getElem?_take]
      by_cases hq : q < st
      · rw [if_pos hq, if_pos hq, List.getElem?_drop, List.getElem?_drop]
        exact hE _ _ (by omega) (by omega) (h6 q hq)
      · rw [if_neg hq, if_neg hq]
    rw [e, show y.drop (b + st) = (y.drop b).drop st by rw [List.drop_drop], List.take_append_drop]
/-- Each changes something, and between two of them something stands. -/
def Tidy' : Nat → List E → Prop
  | _, [] => True
  | i, x :: l => i < x.a ∧ (x.a < x.b ∨ 0 < x.t.length) ∧ Tidy' x.b l
theorem Tidy'.lower {l : List E} {i j : Nat} (h : Tidy' i l) (hj : j ≤ i) : Tidy' j l := by
  cases l with
  | nil => trivial
  | cons x l => exact ⟨Nat.lt_of_le_of_lt hj h.1, h.2⟩
theorem mk_tidy (hy : y.length = M) : ∀ {l : List (Nat × Nat × Nat)} {i j : Nat}, Stretches E' N M i j l → ∀ w, w < n + i → Tidy' w (mk n y i j (l ++ [(N, M, 0)]))
  | [], i, j, h, w, hw => by
    obtain ⟨h1, h2⟩ := h
    simp only [List.nil_append, mk]
    split
    · rename_i hc
      refine ⟨hw, ?_, trivial⟩
      simp only [List.length_take, List.length_drop]
      omega
    · trivial
  | (a, b, s) :: l, i, j, h, w, hw => by
    obtain ⟨h1, h2, h3, h4, h5, h6, h7⟩ := h
    have ih := mk_tidy hy h7
    simp only [List.cons_append, mk]
    split
    · rename_i hc
      refine ⟨hw, ?_, ih (n + a) (by omega)⟩
      simp only [List.length_take, List.length_drop]
      omega
    · exact ih w (by omega)
end
end Go.Proofs.Ytoljmjhmieaggaa.Ed
end
section
namespace Go.Proofs.Ytoljmjhmieaggaa.Pure
open Go.RowKit Go.Proofs.Ytoljmjhmieaggaa.X Go.Proofs.YtoljmjhmieaggaaW.PrintWords Go.Proofs.YtoljmjhmieaggaaW.PrintLast

/-- May a span be? -/
def okS (f t : Int) : Bool := decide (0 ≤ f) && (decide (f ≤ t) && decide (t ≤ 65536))
def okB (s : S39) : Bool := okS s.f0 s.f1
theorem okS_iff {f t : Int} : okS f t = true ↔ 0 ≤ f ∧ f ≤ t ∧ t ≤ 65536 := by simp [okS]
theorem okS_not {f t : Int} : okS f t = false ↔ ¬ (0 ≤ f ∧ f ≤ t ∧ t ≤ 65536) := by rw [← okS_iff]; simp

theorem check_yes {f t n : Int} (h : 0 ≤ f ∧ f ≤ t ∧ t ≤ n ∧ n ≤ 65536) : span_Check.f f t n = some 0 := by
  unfold span_Check.f
  rw [if_neg (by omega), if_neg (by omega), if_neg (by omega), if_neg (by omega), if_neg (by omega)]
theorem check_no {f t n : Int} (h : ¬ (0 ≤ f ∧ f ≤ t ∧ t ≤ n ∧ n ≤ 65536)) : span_Check.f f t n = some 1 := by
  unfold span_Check.f
  by_cases h1 : n < 0
  · rw [if_pos h1]
  · rw [if_neg h1]
    by_cases h2 : n > 65536
    · rw [if_pos h2]
    · rw [if_neg h2]
      by_cases h3 : f < 0
      · rw [if_pos h3]
      · rw [if_neg h3]
        by_cases h4 : t < f
        · rw [if_pos h4]
        · rw [if_neg h4, if_pos (by omega)]
theorem check_any (f t n : Int) : span_Check.f f t n = some (if 0 ≤ f ∧ f ≤ t ∧ t ≤ n ∧ n ≤ 65536 then 0 else 1) := by
  by_cases h : 0 ≤ f ∧ f ≤ t ∧ t ≤ n ∧ n ≤ 65536
  · rw [if_pos h, check_yes h]
  · rw [if_neg h, check_no h]

theorem rd39_lt {l : List S39} {i : Nat} (h : i < l.length) : rd_T39 l (i : Int) = l[i] := by
  unfold rd_T39
  rw [Int.toNat_natCast, List.getD_eq_getElem?_getD, List.getElem?_eq_getElem h]
  rfl

theorem right_from (l : List S39) (hl : l.length ≤ 9223372036854775807) : ∀ (d i : Nat), l.length - i = d → i ≤ l.length → Ev (fun k => span_right.l0 k l (l.length : Int) (i : Int)) ((l.drop i).all okB) := by
  intro d
  induction d with
  | zero =>
    intro i h1 h2
    refine Ev.step (fun k => by rw [span_right.l0]) (Ev.neg (by omega) ?_)
    rw [List.drop_eq_nil_of_le (by omega)]
    exact Ev.now_ _
  | succ d ih =>
    intro i h1 h2
    have hi : i < l.length := by omega
    refine Ev.step (fun k => by rw [span_right.l0]) (Ev.pos (by omega) (Ev.pos (by omega) (Ev.pos (by omega) ?_)))
    rw [rd39_lt hi, wrap_succ hi hl, List.drop_eq_getElem_cons hi, List.all_cons]
    by_cases h : okB l[i] = true
    · have h' := h
      rw [okB, okS_iff] at h'
      refine Ev.bind (Ev.eq (check_yes ⟨h'.1, h'.2.1, h'.2.2, by omega⟩)) (Ev.pos rfl ?_)
      rw [h, Bool.true_and]
      exact ih (i + 1) (by omega) (by omega)
    · rw [Bool.not_eq_true] at h
      have h' := h
      rw [okB, okS_not] at h'
      refine Ev.bind (Ev.eq (check_no (by omega))) (Ev.neg (by decide) ?_)
      rw [h, Bool.false_and]
      exact Ev.now_ _
theorem right_any (l : List S39) (hl : l.length ≤ 9223372036854775807) : Ev (fun k => span_right.f k l) (l.all okB) := by
  have := right_from l hl _ 0 rfl (by omega)
  simpa [span_right.f] using this
theorem right_one (f t : Int) : Ev (fun k => span_right.f k [⟨f, t⟩]) (okS f t) := by
  have := right_any [⟨f, t⟩] (by simp)
  simpa [okB] using this
theorem right_two (f t f' t' : Int) : Ev (fun k => span_right.f k [⟨f, t⟩, ⟨f', t'⟩]) (okS f t && okS f' t') := by
  have := right_any [⟨f, t⟩, ⟨f', t'⟩] (by simp)
  simpa [okB] using this

def lenS (f t : Int) : Int := if okS f t = true then t - f else 0
theorem len_any (f t : Int) : Ev (fun k => span_Len.f k f t) (lenS f t) := by
  unfold span_Len.f lenS
  refine Ev.bind (right_one f t) ?_
  by_cases h : okS f t = true
  · have h' := okS_iff.1 h
    rw [show (if okS f t = true then t - f else 0) = t - f from if_pos h]
    rw [wrap_id (by omega) (by omega)]
    exact Ev.pos h (Ev.now_ _)
  · rw [show (if okS f t = true then t - f else 0) = 0 from if_neg h]
    exact Ev.neg h (Ev.now_ _)

def apartS (f t f' t' : Int) : Bool := okS f t && okS f' t' && !(decide (f = f') && decide (t = t') && decide (t ≤ f)) && (decide (t ≤ f') || decide (t' ≤ f))
theorem apart_any (f t f' t' : Int) : Ev (fun k => span_Apart.f k f t f' t') (apartS f t f' t') := by
  unfold span_Apart.f apartS
  refine Ev.bind (right_two f t f' t') ?_
  by_cases h : (okS f t && okS f' t') = true
  · refine Ev.pos h ?_
    rw [h]
    rw [Bool.and_eq_true] at h
    have h' := okS_iff.1 h.1
    by_cases e : f = f' ∧ t = t'
    · refine Ev.pos (by simp [e.1, e.2]) (Ev.bind (len_any f t) ?_)
      have hlen : lenS f t = t - f := by unfold lenS; rw [if_pos h.1]
      rw [hlen]
      by_cases z : t = f
      · refine Ev.pos (by omega) (Ev.cast (Ev.now_ _) ?_)
        have : t ≤ f := by omega
        simp [e.1, e.2, z ▸ e.1 ▸ this]
      · refine Ev.neg (by omega) (Ev.neg (by omega) (Ev.cast (Ev.now_ _) ?_))
        have z1 : ¬ t ≤ f := by omega
        have z2 : ¬ t ≤ f' := by omega
        simp [z1, z2]
    · have e1 : (decide (f = f') && decide (t = t') && decide (t ≤ f)) = false := by
        by_cases a : f = f'
        · by_cases b : t = t'
          · exact absurd ⟨a, b⟩ e
          · simp [b]
        · simp [a]
      rw [e1]
      refine Ev.neg (by simpa using fun a b => e ⟨a, b⟩) ?_
      by_cases a : t ≤ f'
      · refine Ev.pos a (Ev.cast (Ev.now_ _) ?_)
        simp [a]
      · refine Ev.neg a (Ev.cast (Ev.now_ _) ?_)
        simp [a]
  · refine Ev.neg h (Ev.cast (Ev.now_ _) ?_)
    rw [Bool.not_eq_true] at h
    simp [h]

/-! The least span over some. -/
/-! The head of each statement. -/
end Go.Proofs.Ytoljmjhmieaggaa.Pure
end
