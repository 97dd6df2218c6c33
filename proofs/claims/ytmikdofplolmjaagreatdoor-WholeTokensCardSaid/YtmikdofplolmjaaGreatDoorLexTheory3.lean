/- What a text in quotes says, and back; which words the language keeps: as lists of bytes, without any program; no condition beyond those named. -/
import Derived.Test.YtmikdofplolmjaaGreatDoorLexTheory
import Derived.Lib.IndexMore
namespace Go.Proofs.YtmikdofplolmjaaGreatDoor.Lx
set_option linter.unusedVariables false
set_option linter.unusedSimpArgs false

/-- May a byte be said? -/
def sayB (c : UInt8) : Bool := (32 ≤ c && c ≤ 126) || c == 10 || c == 9
/-- A text within quotes, and its last quote; none: a byte of it can't be said. -/
def quoteL : List UInt8 → Option (List UInt8)
  | [] => some [34]
  | c :: l => if c = 10 then (quoteL l).map fun q => 92 :: 110 :: q else if c = 9 then (quoteL l).map fun q => 92 :: 116 :: q
      else if c = 34 ∨ c = 92 then (quoteL l).map fun q => 92 :: c :: q else if c < 32 ∨ 126 < c then none else (quoteL l).map fun q => c :: q
def escB (c : UInt8) : UInt8 := if c = 110 then 10 else if c = 116 then 9 else c
/-- What is said, behind the first quote; the last byte is not read. -/
def unqL : List UInt8 → List UInt8
  | [] => []
  | [_] => []
  | c :: d :: l => if c = 92 then escB d :: unqL l else c :: unqL (d :: l)
theorem quoteL_none : ∀ {s : List UInt8}, (∃ c ∈ s, sayB c = false) → quoteL s = none
  | [], h => by simp at h
  | c :: l, h => by
    by_cases hl : ∃ c ∈ l, sayB c = false
    · have ih := quoteL_none hl
      rw [quoteL, ih]
      simp
    · obtain ⟨d, hd, hs⟩ := h
      rcases List.mem_cons.1 hd with rfl | hd
      · have h1 : d ≠ 10 := by rintro rfl; exact absurd hs (by decide)
        have h2 : d ≠ 9 := by rintro rfl; exact absurd hs (by decide)
        have h3 : ¬ (d = 34 ∨ d = 92) := by rintro (rfl | rfl) <;> exact absurd hs (by decide)
        have h4 : d < 32 ∨ 126 < d := by
          simp only [sayB, Bool.or_eq_false_iff, Bool.and_eq_false_iff, decide_eq_false_iff_not, UInt8.not_le] at hs
          exact hs.1.1
        rw [quoteL, if_neg h1, if_neg h2, if_neg h3, if_pos h4]
      · exact absurd ⟨d, hd, hs⟩ hl
theorem quoteL_back : ∀ {s : List UInt8}, (∀ c ∈ s, sayB c = true) → ∃ q, quoteL s = some q ∧ quotN q = (q.length, 0) ∧ unqL q = s ∧ q.length ≤ 2 * s.length + 1
  | [], _ => ⟨[34], rfl, rfl, rfl, Nat.le_refl _⟩
  | c :: l, h => by
    obtain ⟨q, h1, h2, h3, h5⟩ := quoteL_back (s := l) (fun d hd => h d (List.mem_cons_of_mem _ hd))
    have hc := h c List.mem_cons_self
    have e2 : (quotN q).1 = q.length := by rw [h2]
    have e3 : (quotN q).2 = 0 := by rw [h2]
    have hq : q ≠ [] := by rintro rfl; cases h2
    have esc : ∀ d, (d = 34 ∨ d = 92 ∨ d = 110 ∨ d = 116) → quotN (92 :: d :: q) = ((92 :: d :: q).length, 0) := fun d hd => by
      rw [quotN, if_neg (by decide), if_neg (by decide), if_neg (by decide), if_pos rfl, if_pos hd, e2, e3]; rfl
    have une : ∀ d, unqL (92 :: d :: q) = escB d :: l := fun d => by rw [unqL, if_pos rfl, h3]
    rw [quoteL, h1]
    by_cases c1 : c = 10
    · subst c1
      exact ⟨_, by rw [if_pos rfl]; rfl, esc 110 (by decide), by rw [une]; rfl, by simp; omega⟩
    · by_cases c2 : c = 9
      · subst c2
        exact ⟨_, by rw [if_neg c1, if_pos rfl]; rfl, esc 116 (by decide), by rw [une]; rfl, by simp; omega⟩
      · by_cases c3 : c = 34 ∨ c = 92
        · refine ⟨_, by rw [if_neg c1, if_neg c2, if_pos c3]; rfl, esc c (by rcases c3 with rfl | rfl <;> decide), ?_, by simp; omega⟩
          rw [une]
          rcases c3 with rfl | rfl <;> rfl
        · have c4 : ¬ (c < 32 ∨ 126 < c) := by
            have h1' : (c == 10) = false := by simpa using c1
            have h2' : (c == 9) = false := by simpa using c2
            simp only [sayB, h1', h2', Bool.or_false, Bool.and_eq_true, decide_eq_true_eq] at hc
            rintro (h' | h')
            · exact absurd h' (UInt8.not_lt.2 hc.1)
            · exact absurd h' (UInt8.not_lt.2 hc.2)
          obtain ⟨d, m, rfl⟩ : ∃ d m, q = d :: m := by
            cases q with
            | nil => exact absurd rfl hq
            | cons d m => exact ⟨d, m, rfl⟩
          refine ⟨_, by rw [if_neg c1, if_neg c2, if_neg c3, if_neg c4]; rfl, ?_, ?_, by simp at h5 ⊢; omega⟩
          · rw [quotN, if_neg (fun h => c3 (.inl h)), if_neg c1, if_neg c4, if_neg (fun h => c3 (.inr h)), e2, e3]; rfl
          · rw [unqL, if_neg (fun h => c3 (.inr h)), h3]
/-- What a text in quotes says may be said. -/
theorem unqL_says : ∀ {l : List UInt8}, (quotN l).2 = 0 → ∀ c ∈ unqL (l.take (quotN l).1), sayB c = true
  | [], h => by cases h
  | [c], h => by
    intro d hd
    rw [List.take_of_length_le (by have := quotN_pos [c] h; exact this)] at hd
    cases hd
  | c :: d :: l, h => by
    rw [quotN] at h
    by_cases c1 : c = 34
    · subst c1
      have e : quotN (34 :: d :: l) = (1, 0) := by rw [quotN, if_pos rfl]
      rw [e]
      intro x hx
      cases hx
    · rw [if_neg c1] at h
      by_cases c2 : c = 10
      · rw [if_pos c2] at h; cases h
      · rw [if_neg c2] at h
        by_cases c3 : c < 32 ∨ 126 < c
        · rw [if_pos c3] at h; cases h
        · rw [if_neg c3] at h
          by_cases c4 : c = 92
          · rw [if_pos c4] at h
            by_cases c5 : d = 34 ∨ d = 92 ∨ d = 110 ∨ d = 116
            · rw [if_pos c5] at h
              have ih := unqL_says (l := l) h
              have e : quotN (c :: d :: l) = ((quotN l).1 + 1 + 1, (quotN l).2) := by rw [quotN, if_neg c1, if_neg c2, if_neg c3, if_pos c4, if_pos c5]
              rw [e]
              show ∀ x ∈ unqL ((c :: d :: l).take ((quotN l).1 + 1 + 1)), _
              rw [List.take_succ_cons, List.take_succ_cons, unqL, if_pos c4]
              intro x hx
              rcases List.mem_cons.1 hx with rfl | hx
              · rcases c5 with rfl | rfl | rfl | rfl <;> rfl
              · exact ih x hx
            · rw [if_neg c5] at h; cases h
          · rw [if_neg c4] at h
            have ih := unqL_says (l := d :: l) h
            have hp := quotN_pos (d :: l) h
            have e : quotN (c :: d :: l) = ((quotN (d :: l)).1 + 1, (quotN (d :: l)).2) := by rw [quotN, if_neg c1, if_neg c2, if_neg c3, if_neg c4]
            rw [e]
            show ∀ x ∈ unqL ((c :: d :: l).take ((quotN (d :: l)).1 + 1)), _
            rw [List.take_succ_cons]
            obtain ⟨q, hq⟩ : ∃ q, (quotN (d :: l)).1 = q + 1 := ⟨(quotN (d :: l)).1 - 1, by omega⟩
            rw [hq, List.take_succ_cons] at ih ⊢
            rw [unqL, if_neg c4]
            intro x hx
            rcases List.mem_cons.1 hx with rfl | hx
            · have : ¬ x < 32 ∧ ¬ 126 < x := not_or.1 c3
              have h1 := UInt8.not_lt.1 this.1
              have h2 := UInt8.not_lt.1 this.2
              simp only [sayB]
              rw [decide_eq_true h1, decide_eq_true h2]; rfl
            · exact ih x hx

/-! ### Words in a row, with blanks between -/
theorem isPrefix_take : ∀ {p l : List UInt8}, p.isPrefixOf l = true → ∃ r, l = p ++ r
  | p, l, h => by obtain ⟨r, hr⟩ := List.isPrefixOf_iff_prefix.1 h; exact ⟨r, hr.symm⟩
/-- The first piece of a list, up to a blank. -/
def piece (l : List UInt8) : List UInt8 := l.takeWhile (· ≠ 32)
theorem piece_of : ∀ {s r : List UInt8}, (∀ c ∈ s, c ≠ 32) → piece (s ++ 32 :: r) = s
  | [], r, _ => by simp [piece]
  | c :: s, r, h => by
    have hc := h c List.mem_cons_self
    have ih := piece_of (s := s) (r := r) (fun d hd => h d (List.mem_cons_of_mem _ hd))
    unfold piece at ih ⊢
    rw [List.cons_append, List.takeWhile_cons, if_pos (by simpa using hc), ih]
/-- A word without blanks, with one at each end, stands in a text of words where one of them is it. -/
theorem contains_word {ws s : List UInt8} (h : ∀ c ∈ s, c ≠ 32) : Lib.contains ws (32 :: (s ++ [32])) = true ↔ ∃ i, i < ws.length ∧ ws[i]? = some 32 ∧ piece (ws.drop (i + 1)) = s ∧ i + s.length + 1 < ws.length := by
  unfold Lib.contains
  rw [decide_eq_true_iff]
  constructor
  · intro h0
    rcases Lib.index_spec ws (32 :: (s ++ [32])) with ⟨h1, _⟩ | ⟨i, h1, h2, h3, _⟩
    · omega
    · rcases Lib.occAt_room h3 with h4 | h4
      · rw [List.length_cons, List.length_append, List.length_singleton] at h4
        have hlt : i < ws.length := by omega
        unfold Lib.occAt at h3
        obtain ⟨r, hr⟩ := isPrefix_take h3
        rw [List.drop_eq_getElem_cons hlt, List.cons_append] at hr
        injection hr with hr1 hr2
        refine ⟨i, hlt, by rw [List.getElem?_eq_getElem hlt, hr1], ?_, by omega⟩
        rw [hr2, List.append_assoc, List.singleton_append]
        exact piece_of h
      · cases h4
  · rintro ⟨i, h1, h2, h3, h4⟩
    rcases Lib.index_spec ws (32 :: (s ++ [32])) with ⟨_, h5⟩ | ⟨j, h5, _⟩
    · have h6 := h5 i (by omega)
      exfalso
      unfold Lib.occAt at h6
      rw [List.getElem?_eq_getElem h1] at h2
      have e : ws.drop i = 32 :: ws.drop (i + 1) := by rw [List.drop_eq_getElem_cons h1]; rw [Option.some.inj h2]
      have hpre : ∀ l : List UInt8, (piece l).length < l.length → ∃ r, l = piece l ++ 32 :: r := by
        intro l
        induction l with
        | nil => intro hl; simp at hl
        | cons c l ih =>
          intro hl
          by_cases hc : c = 32
          · subst hc
            exact ⟨l, by simp [piece]⟩
          · have ep : piece (c :: l) = c :: piece l := by unfold piece; rw [List.takeWhile_cons, if_pos (by simpa using hc)]
            rw [ep, List.length_cons, List.length_cons] at hl
            obtain ⟨r, hr⟩ := ih (by omega)
            exact ⟨r, by rw [ep, List.cons_append, ← hr]⟩
      obtain ⟨r, hr⟩ := hpre (ws.drop (i + 1)) (by rw [h3, List.length_drop]; omega)
      rw [e, hr, h3] at h6
      have : (32 :: (s ++ [32])).isPrefixOf (32 :: (s ++ 32 :: r)) = true := List.isPrefixOf_iff_prefix.2 ⟨r, by simp⟩
      rw [this] at h6
      cases h6
    · rw [h5]; omega
/-- Two bytes that are no blanks, with one behind them, stand in such a text where one of its words ends with them. -/
theorem contains_two {ws : List UInt8} {c d : UInt8} : Lib.contains ws [c, d, 32] = true ↔ ∃ i, i < ws.length ∧ ws[i]? = some c ∧ ws[i + 1]? = some d ∧ ws[i + 2]? = some 32 := by
  unfold Lib.contains
  rw [decide_eq_true_iff]
  constructor
  · intro h0
    rcases Lib.index_spec ws [c, d, 32] with ⟨h1, _⟩ | ⟨i, h1, h2, h3, _⟩
    · omega
    · rcases Lib.occAt_room h3 with h4 | h4
      · have h4' : i + 3 ≤ ws.length := h4
        unfold Lib.occAt at h3
        obtain ⟨r, hr⟩ := isPrefix_take h3
        have g : ∀ k, (ws.drop i)[k]? = ws[i + k]? := fun k => List.getElem?_drop
        refine ⟨i, by omega, ?_, ?_, ?_⟩
        · rw [← Nat.add_zero i, ← g, hr]; rfl
        · rw [← g, hr]; rfl
        · rw [← g, hr]; rfl
      · cases h4
  · rintro ⟨i, h1, h2, h3, h4⟩
    rcases Lib.index_spec ws [c, d, 32] with ⟨_, h5⟩ | ⟨j, h5, _⟩
    · exfalso
      have h6 := h5 i (by omega)
      unfold Lib.occAt at h6
      have k2 : i + 2 < ws.length := (List.getElem?_eq_some_iff.1 h4).1
      have e : ws.drop i = c :: d :: 32 :: ws.drop (i + 3) := by
        rw [List.drop_eq_getElem_cons (by omega), List.drop_eq_getElem_cons (i := i + 1) (by omega), List.drop_eq_getElem_cons (i := i + 2) (by omega)]
        rw [(List.getElem?_eq_some_iff.1 h2).2, (List.getElem?_eq_some_iff.1 h3).2, (List.getElem?_eq_some_iff.1 h4).2]
      rw [e] at h6
      simp at h6
    · rw [h5]; omega
end Go.Proofs.YtmikdofplolmjaaGreatDoor.Lx
