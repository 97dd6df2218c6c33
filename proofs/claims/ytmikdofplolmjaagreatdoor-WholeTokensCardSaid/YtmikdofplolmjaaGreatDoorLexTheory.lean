/- How a text is cut into words, numbers, texts in quotes and signs, as lists of bytes, without any program; no condition beyond those named. -/
namespace Go.Proofs.YtmikdofplolmjaaGreatDoor.Lx
set_option linter.unusedVariables false
set_option linter.unusedSimpArgs false

/-- May a byte begin a word, or stand in a number, or in a word, or between tokens? -/
def letB (c : UInt8) : Bool := (97 ≤ c && c ≤ 122) || (65 ≤ c && c ≤ 90) || c == 95
def digB (c : UInt8) : Bool := 48 ≤ c && c ≤ 57
def wrdB (c : UInt8) : Bool := letB c || digB c
def blkB (c : UInt8) : Bool := c == 32 || c == 9 || c == 10 || c == 13
/-- How many bytes of a sort stand first. -/
def lenN (p : UInt8 → Bool) : List UInt8 → Nat
  | [] => 0
  | c :: l => if p c then lenN p l + 1 else 0
/-- How many bytes of blanks and comments stand first; true: within a comment. -/
def skipN : Bool → List UInt8 → Nat
  | _, [] => 0
  | true, c :: l => if c = 10 then skipN false l + 1 else skipN true l + 1
  | false, c :: l => if blkB c then skipN false l + 1 else if c = 47 ∧ l.head? = some 47 then skipN true l + 1 else 0
/-- How many bytes a text in quotes has behind its first quote; an error's number. -/
def quotN : List UInt8 → Nat × Nat
  | [] => (0, 61)
  | [c] => if c = 34 then (1, 0) else if c = 10 then (0, 61) else if c < 32 ∨ 126 < c then (0, 60) else (0, 61)
  | c :: d :: l => if c = 34 then (1, 0) else if c = 10 then (0, 61) else if c < 32 ∨ 126 < c then (0, 60) else
      if c = 92 then (if d = 34 ∨ d = 92 ∨ d = 110 ∨ d = 116 then ((quotN l).1 + 2, (quotN l).2) else (0, 5))
      else ((quotN (d :: l)).1 + 1, (quotN (d :: l)).2)
def twoB (c d : UInt8) : Bool := (c == 61 && d == 61) || (c == 33 && d == 61) || (c == 60 && d == 61) || (c == 62 && d == 61) || (c == 38 && d == 38) || (c == 124 && d == 124)
def oneB (c : UInt8) : Bool := [123, 125, 40, 41, 91, 93, 59, 44, 46, 61, 60, 62, 43, 45, 42, 47, 37, 33, 63].contains c
/-- How many bytes a sign has; none: it is none. -/
def signN : List UInt8 → Nat
  | [] => 0
  | [c] => if oneB c then 1 else 0
  | c :: d :: _ => if twoB c d then 2 else if oneB c then 1 else 0
/-- A number's kind and length, behind its first digits. -/
def fracN : List UInt8 → Nat × Nat
  | c :: d :: l => if c = 46 ∧ digB d then (3, lenN digB (d :: l) + 1) else (2, 0)
  | _ => (2, 0)
/-- A token's kind, its length, an error's number. -/
def oneN : List UInt8 → Nat × Nat × Nat
  | [] => (0, 0, 60)
  | c :: l =>
    if letB c then (if 64 < lenN wrdB (c :: l) then (0, 0, 2) else (1, lenN wrdB (c :: l), 0))
    else if digB c then
      (if 20 < lenN digB (c :: l) + (fracN ((c :: l).drop (lenN digB (c :: l)))).2 then (0, 0, 2) else ((fracN ((c :: l).drop (lenN digB (c :: l)))).1, lenN digB (c :: l) + (fracN ((c :: l).drop (lenN digB (c :: l)))).2, 0))
    else if c = 34 then (if (quotN l).2 = 0 then (if 256 < (quotN l).1 + 1 then (0, 0, 2) else (4, (quotN l).1 + 1, 0)) else (0, 0, (quotN l).2))
    else if signN (c :: l) = 0 then (0, 0, 60) else (5, signN (c :: l), 0)
/-- A text's tokens from a place on, behind some; an error's number, and where. -/
def lexN : Nat → Nat → Nat → List UInt8 → List (Nat × Nat × Nat) × Nat × Nat
  | 0, _, _, _ => ([], 0, 0)
  | f + 1, at_, n, l =>
    if l.drop (skipN false l) = [] then ([(0, at_ + skipN false l, at_ + skipN false l)], 0, 0)
    else if 16384 ≤ n then ([], 2, at_ + skipN false l)
    else if (oneN (l.drop (skipN false l))).2.2 = 0 then
      (if (lexN f (at_ + skipN false l + (oneN (l.drop (skipN false l))).2.1) (n + 1) ((l.drop (skipN false l)).drop (oneN (l.drop (skipN false l))).2.1)).2.1 = 0 then
        (((oneN (l.drop (skipN false l))).1, at_ + skipN false l, at_ + skipN false l + (oneN (l.drop (skipN false l))).2.1) :: (lexN f (at_ + skipN false l + (oneN (l.drop (skipN false l))).2.1) (n + 1) ((l.drop (skipN false l)).drop (oneN (l.drop (skipN false l))).2.1)).1, 0, 0)
      else ([], (lexN f (at_ + skipN false l + (oneN (l.drop (skipN false l))).2.1) (n + 1) ((l.drop (skipN false l)).drop (oneN (l.drop (skipN false l))).2.1)).2))
    else ([], (oneN (l.drop (skipN false l))).2.2, at_ + skipN false l)

theorem lenN_le (p : UInt8 → Bool) : ∀ l, lenN p l ≤ l.length
  | [] => Nat.le_refl _
  | c :: l => by
    have := lenN_le p l
    rw [lenN, List.length_cons]
    split <;> omega
/-- What doesn't belong ends a run. -/
theorem lenN_stop {p : UInt8 → Bool} {d : UInt8} (hd : p d = false) (m : List UInt8) : ∀ l, lenN p (l ++ d :: m) = lenN p l
  | [] => by simp [lenN, hd]
  | c :: l => by
    rw [List.cons_append, lenN, lenN, lenN_stop hd m l]
theorem lenN_take {p : UInt8 → Bool} : ∀ (l : List UInt8) (n : Nat), n ≤ lenN p l → lenN p (l.take n) = n
  | [], n, h => by rw [lenN] at h; rw [Nat.le_zero.1 h]; rfl
  | c :: l, 0, h => rfl
  | c :: l, n + 1, h => by
    rw [lenN] at h
    rw [List.take_succ_cons, lenN]
    by_cases hc : p c = true
    · rw [if_pos hc] at h ⊢
      rw [lenN_take l n (by omega)]
    · rw [if_neg hc] at h
      omega
theorem lenN_drop (p : UInt8 → Bool) : ∀ l : List UInt8, lenN p (l.drop (lenN p l)) = 0
  | [] => rfl
  | c :: l => by
    by_cases hc : p c = true
    · rw [lenN, if_pos hc, List.drop_succ_cons]
      exact lenN_drop p l
    · rw [lenN, if_neg hc, List.drop_zero, lenN, if_neg hc]
theorem drop_stop {l : List UInt8} {n : Nat} (h : n ≤ l.length) (m : List UInt8) : (l ++ m).drop n = l.drop n ++ m := List.drop_append_of_le_length h
theorem skipN_le : ∀ b l, skipN b l ≤ l.length
  | b, [] => by cases b <;> exact Nat.le_refl _
  | true, c :: l => by
    have h1 := skipN_le true l
    have h2 := skipN_le false l
    rw [skipN, List.length_cons]
    split <;> omega
  | false, c :: l => by
    have h1 := skipN_le true l
    have h2 := skipN_le false l
    rw [skipN, List.length_cons]
    split
    · omega
    · split <;> omega
/-- Behind what is skipped nothing is skipped. -/
theorem skipN_drop : ∀ (b : Bool) (l : List UInt8), skipN false (l.drop (skipN b l)) = 0
  | b, [] => by cases b <;> rfl
  | true, c :: l => by
    rw [skipN]
    split
    · rw [List.drop_succ_cons]; exact skipN_drop false l
    · rw [List.drop_succ_cons]; exact skipN_drop true l
  | false, c :: l => by
    by_cases h1 : blkB c = true
    · rw [skipN, if_pos h1, List.drop_succ_cons]; exact skipN_drop false l
    · by_cases h2 : c = 47 ∧ l.head? = some 47
      · rw [skipN, if_neg h1, if_pos h2, List.drop_succ_cons]; exact skipN_drop true l
      · rw [skipN, if_neg h1, if_neg h2, List.drop_zero, skipN, if_neg h1, if_neg h2]
/-- What is skipped is skipped, whatever stands behind. -/
theorem skipN_take : ∀ b (l : List UInt8), skipN b (l.take (skipN b l)) = skipN b l
  | b, [] => by cases b <;> rfl
  | true, c :: l => by
    by_cases h : c = 10
    · rw [skipN, if_pos h, List.take_succ_cons, skipN, if_pos h, skipN_take false l]
    · rw [skipN, if_neg h, List.take_succ_cons, skipN, if_neg h, skipN_take true l]
  | false, c :: l => by
    by_cases h1 : blkB c = true
    · rw [skipN, if_pos h1, List.take_succ_cons, skipN, if_pos h1, skipN_take false l]
    · by_cases h2 : c = 47 ∧ l.head? = some 47
      · rw [skipN, if_neg h1, if_pos h2, List.take_succ_cons, skipN, if_neg h1]
        obtain ⟨m, rfl⟩ : ∃ m, l = 47 :: m := by
          cases l with
          | nil => simp at h2
          | cons d m => exact ⟨m, by have := h2.2; simp at this; rw [this]⟩
        have e : skipN true (47 :: m) = skipN true m + 1 := by rw [skipN, if_neg (by decide)]
        rw [if_pos ⟨h2.1, by rw [e]; rfl⟩, skipN_take true (47 :: m)]
      · rw [skipN, if_neg h1, if_neg h2, List.take_zero, skipN]
theorem skipN_first : ∀ {l : List UInt8} {n : Nat}, skipN false l = 0 → skipN false (l.take n) = 0
  | [], n, h => by rw [List.take_nil]; rfl
  | c :: l, 0, h => rfl
  | c :: l, n + 1, h => by
    rw [skipN] at h
    by_cases h1 : blkB c = true
    · rw [if_pos h1] at h; omega
    · rw [if_neg h1] at h
      by_cases h2 : c = 47 ∧ l.head? = some 47
      · rw [if_pos h2] at h; omega
      · rw [List.take_succ_cons, skipN, if_neg h1, if_neg]
        rintro ⟨h3, h4⟩
        refine h2 ⟨h3, ?_⟩
        cases l with
        | nil => simp at h4
        | cons d m =>
          cases n with
          | zero => simp at h4
          | succ n => simpa using h4
theorem skipN_cons : ∀ {l : List UInt8}, l ≠ [] → skipN false l = 0 → ∃ c m, l = c :: m ∧ blkB c = false ∧ ¬ (c = 47 ∧ m.head? = some 47)
  | [], h, _ => absurd rfl h
  | c :: l, _, h => by
    rw [skipN] at h
    by_cases h1 : blkB c = true
    · rw [if_pos h1] at h; omega
    · rw [if_neg h1] at h
      by_cases h2 : c = 47 ∧ l.head? = some 47
      · rw [if_pos h2] at h; omega
      · exact ⟨c, l, rfl, by simpa using h1, h2⟩
/-- A line end behind a text ends what is skipped of it, or is skipped itself. -/
theorem skipN_line (m : List UInt8) : ∀ b (l : List UInt8), skipN b (l ++ 10 :: m) = if skipN b l = l.length then l.length + 1 + skipN false m else skipN b l
  | true, [] => by
    have e : skipN true ([] : List UInt8) = 0 := rfl
    have e2 : skipN true (10 :: m) = skipN false m + 1 := by rw [skipN, if_pos rfl]
    rw [List.nil_append, e, e2, if_pos (show 0 = [].length from rfl), List.length_nil]; omega
  | false, [] => by
    have e : skipN false ([] : List UInt8) = 0 := rfl
    have e2 : skipN false (10 :: m) = skipN false m + 1 := by rw [skipN, if_pos (by decide)]
    rw [List.nil_append, e, e2, if_pos (show 0 = [].length from rfl), List.length_nil]; omega
  | true, c :: l => by
    rw [List.cons_append, skipN, skipN, List.length_cons]
    by_cases h : c = 10
    · rw [if_pos h, if_pos h, skipN_line m false l]
      by_cases k : skipN false l = l.length
      · rw [if_pos k, if_pos (by omega)]; omega
      · rw [if_neg k, if_neg (by omega)]
    · rw [if_neg h, if_neg h, skipN_line m true l]
      by_cases k : skipN true l = l.length
      · rw [if_pos k, if_pos (by omega)]; omega
      · rw [if_neg k, if_neg (by omega)]
  | false, c :: l => by
    rw [List.cons_append, skipN, skipN, List.length_cons]
    by_cases h : blkB c = true
    · rw [if_pos h, if_pos h, skipN_line m false l]
      by_cases k : skipN false l = l.length
      · rw [if_pos k, if_pos (by omega)]; omega
      · rw [if_neg k, if_neg (by omega)]
    · rw [if_neg h, if_neg h]
      have e : (c = 47 ∧ (l ++ 10 :: m).head? = some 47) = (c = 47 ∧ l.head? = some 47) := by
        cases l with
        | nil => simp
        | cons d k => simp
      simp only [e]
      by_cases h2 : c = 47 ∧ l.head? = some 47
      · rw [if_pos h2, if_pos h2, skipN_line m true l]
        by_cases k : skipN true l = l.length
        · rw [if_pos k, if_pos (by omega)]; omega
        · rw [if_neg k, if_neg (by omega)]
      · rw [if_neg h2, if_neg h2, if_neg (by omega)]

theorem quotN_le : ∀ l, (quotN l).1 ≤ l.length
  | [] => Nat.zero_le _
  | [c] => by
    rw [quotN]
    split
    · exact Nat.le_refl _
    · split
      · exact Nat.zero_le _
      · split <;> exact Nat.zero_le _
  | c :: d :: l => by
    have h1 := quotN_le l
    have h2 := quotN_le (d :: l)
    rw [List.length_cons] at h2
    rw [quotN, List.length_cons, List.length_cons]
    split
    · exact Nat.succ_le_succ (Nat.zero_le _)
    · split
      · exact Nat.zero_le _
      · split
        · exact Nat.zero_le _
        · split
          · split
            · show (quotN l).1 + 2 ≤ _; omega
            · exact Nat.zero_le _
          · show (quotN (d :: l)).1 + 1 ≤ _; omega
theorem quotN_pos : ∀ l, (quotN l).2 = 0 → 0 < (quotN l).1
  | [], h => by simp [quotN] at h
  | [c], h => by
    rw [quotN] at h ⊢
    split at h
    · rw [if_pos ‹_›]; exact Nat.one_pos
    · split at h
      · cases h
      · split at h <;> cases h
  | c :: d :: l, h => by
    rw [quotN] at h ⊢
    split at h
    · rw [if_pos ‹_›]; exact Nat.one_pos
    · rw [if_neg ‹_›]
      split at h
      · cases h
      · rw [if_neg ‹_›]
        split at h
        · cases h
        · rw [if_neg ‹_›]
          split at h
          · rw [if_pos ‹_›]
            split at h
            · rw [if_pos ‹_›]; exact Nat.succ_pos _
            · cases h
          · rw [if_neg ‹_›]; exact Nat.succ_pos _
/-- A text in quotes ends where it ends, whatever stands behind; where it doesn't end, something behind may tell. -/
theorem quotN_line (m : List UInt8) : ∀ l, (quotN l).2 ≠ 61 → quotN (l ++ m) = quotN l
  | [], h => by simp [quotN] at h
  | [c], h => by
    rw [quotN] at h
    by_cases h1 : c = 34
    · subst h1
      cases m <;> simp [quotN]
    · rw [if_neg h1] at h
      by_cases h2 : c = 10
      · rw [if_pos h2] at h; exact absurd rfl h
      · rw [if_neg h2] at h
        by_cases h3 : c < 32 ∨ 126 < c
        · cases m with
          | nil => rfl
          | cons d m => rw [List.singleton_append, quotN, quotN, if_neg h1, if_neg h1, if_neg h2, if_neg h2, if_pos h3, if_pos h3]
        · rw [if_neg h3] at h; exact absurd rfl h
  | c :: d :: l, h => by
    rw [quotN] at h
    rw [List.cons_append, List.cons_append, quotN, quotN]
    by_cases h1 : c = 34
    · rw [if_pos h1, if_pos h1]
    · rw [if_neg h1, if_neg h1]; rw [if_neg h1] at h
      by_cases h2 : c = 10
      · rw [if_pos h2, if_pos h2]
      · rw [if_neg h2, if_neg h2]; rw [if_neg h2] at h
        by_cases h3 : c < 32 ∨ 126 < c
        · rw [if_pos h3, if_pos h3]
        · rw [if_neg h3, if_neg h3]; rw [if_neg h3] at h
          by_cases h4 : c = 92
          · rw [if_pos h4, if_pos h4]; rw [if_pos h4] at h
            by_cases h5 : d = 34 ∨ d = 92 ∨ d = 110 ∨ d = 116
            · rw [if_pos h5, if_pos h5]; rw [if_pos h5] at h
              rw [quotN_line m l h]
            · rw [if_neg h5, if_neg h5]
          · rw [if_neg h4, if_neg h4]; rw [if_neg h4] at h
            rw [← List.cons_append, quotN_line m (d :: l) h]
theorem quotN_take : ∀ l, (quotN l).2 = 0 → quotN (l.take (quotN l).1) = quotN l
  | [], h => by simp [quotN] at h
  | [c], h => by
    have h0 := quotN_pos [c] h
    have h1 := quotN_le [c]
    rw [List.take_of_length_le (show [c].length ≤ _ from h0)]
  | c :: d :: l, h => by
    rw [quotN] at h
    by_cases h1 : c = 34
    · subst h1
      have e : quotN (34 :: d :: l) = (1, 0) := by rw [quotN, if_pos rfl]
      rw [e]; rfl
    · rw [if_neg h1] at h
      by_cases h2 : c = 10
      · rw [if_pos h2] at h; cases h
      · rw [if_neg h2] at h
        by_cases h3 : c < 32 ∨ 126 < c
        · rw [if_pos h3] at h; cases h
        · rw [if_neg h3] at h
          by_cases h4 : c = 92
          · rw [if_pos h4] at h
            by_cases h5 : d = 34 ∨ d = 92 ∨ d = 110 ∨ d = 116
            · rw [if_pos h5] at h
              have e : quotN (c :: d :: l) = ((quotN l).1 + 2, (quotN l).2) := by rw [quotN, if_neg h1, if_neg h2, if_neg h3, if_pos h4, if_pos h5]
              have ih := quotN_take l h
              rw [e]
              show quotN ((c :: d :: l).take ((quotN l).1 + 1 + 1)) = _
              rw [List.take_succ_cons, List.take_succ_cons, quotN, if_neg h1, if_neg h2, if_neg h3, if_pos h4, if_pos h5, ih]
            · rw [if_neg h5] at h; cases h
          · rw [if_neg h4] at h
            have e : quotN (c :: d :: l) = ((quotN (d :: l)).1 + 1, (quotN (d :: l)).2) := by rw [quotN, if_neg h1, if_neg h2, if_neg h3, if_neg h4]
            have ih := quotN_take (d :: l) h
            have hp := quotN_pos (d :: l) h
            rw [e]
            show quotN ((c :: d :: l).take ((quotN (d :: l)).1 + 1)) = _
            rw [List.take_succ_cons]
            obtain ⟨q, hq⟩ : ∃ q, (quotN (d :: l)).1 = q + 1 := ⟨(quotN (d :: l)).1 - 1, by omega⟩
            rw [hq, List.take_succ_cons] at ih ⊢
            rw [quotN, if_neg h1, if_neg h2, if_neg h3, if_neg h4, ih, hq]

theorem twoB_line {c : UInt8} : twoB c 10 = false := by simp [twoB]
theorem fracN_line (m : List UInt8) : ∀ l, fracN (l ++ 10 :: m) = fracN l
  | [] => by
    cases m with
    | nil => rfl
    | cons d m => rw [List.nil_append, fracN, if_neg (fun h => absurd h.1 (by decide))]; rfl
  | [c] => by rw [List.singleton_append, fracN, if_neg (fun h => absurd h.2 (by decide))]; rfl
  | c :: d :: l => by
    rw [List.cons_append, List.cons_append, fracN, fracN, ← List.cons_append, lenN_stop (by decide)]
theorem signN_line (m : List UInt8) : ∀ l, l ≠ [] → signN (l ++ 10 :: m) = signN l
  | [], h => absurd rfl h
  | [c], _ => by rw [List.singleton_append, signN, signN, twoB_line]; rfl
  | c :: d :: l, _ => rfl
/-- A line end behind a text leaves its token as it is. -/
theorem oneN_line (m : List UInt8) : ∀ l, l ≠ [] → (oneN l).2.2 ≠ 61 → oneN (l ++ 10 :: m) = oneN l
  | [], h, _ => absurd rfl h
  | c :: l, _, h => by
    rw [List.cons_append, oneN, oneN]
    have e1 : lenN wrdB (c :: (l ++ 10 :: m)) = lenN wrdB (c :: l) := by rw [← List.cons_append, lenN_stop (by decide)]
    have e2 : lenN digB (c :: (l ++ 10 :: m)) = lenN digB (c :: l) := by rw [← List.cons_append, lenN_stop (by decide)]
    have e3 : fracN ((c :: (l ++ 10 :: m)).drop (lenN digB (c :: l))) = fracN ((c :: l).drop (lenN digB (c :: l))) := by
      rw [← List.cons_append, drop_stop (lenN_le _ _), fracN_line]
    have e4 : signN (c :: (l ++ 10 :: m)) = signN (c :: l) := by rw [← List.cons_append, signN_line m _ (by simp)]
    rw [e1, e2, e3, e4]
    by_cases h1 : letB c = true
    · rw [if_pos h1, if_pos h1]
    · rw [if_neg h1, if_neg h1]
      by_cases h2 : digB c = true
      · rw [if_pos h2, if_pos h2]
      · rw [if_neg h2, if_neg h2]
        by_cases h3 : c = 34
        · rw [if_pos h3, if_pos h3]
          rw [oneN, if_neg h1, if_neg h2, if_pos h3] at h
          rw [quotN_line (10 :: m) l]
          by_cases h4 : (quotN l).2 = 0
          · rw [h4]; decide
          · rw [if_neg h4] at h
            exact h
        · rw [if_neg h3, if_neg h3]
theorem fracN_le : ∀ l, (fracN l).2 ≤ l.length
  | [] => Nat.zero_le _
  | [c] => Nat.zero_le _
  | c :: d :: l => by
    have := lenN_le digB (d :: l)
    rw [fracN, List.length_cons]
    split
    · show lenN digB (d :: l) + 1 ≤ _; omega
    · exact Nat.zero_le _
theorem fracN_take : ∀ l, fracN (l.take (fracN l).2) = fracN l
  | [] => rfl
  | [c] => rfl
  | c :: d :: l => by
    by_cases h : c = 46 ∧ digB d = true
    · have e : fracN (c :: d :: l) = (3, lenN digB (d :: l) + 1) := by rw [fracN, if_pos h]
      rw [e]
      show fracN ((c :: d :: l).take (lenN digB (d :: l) + 1)) = _
      rw [List.take_succ_cons]
      have hr : lenN digB (d :: l) = lenN digB l + 1 := by rw [lenN, if_pos h.2]
      have ht := lenN_take (p := digB) (d :: l) (lenN digB (d :: l)) (Nat.le_refl _)
      rw [hr, List.take_succ_cons] at ht ⊢
      rw [fracN, if_pos h, ht]
    · have e : fracN (c :: d :: l) = (2, 0) := by rw [fracN, if_neg h]
      rw [e]; rfl
theorem signN_le : ∀ l, signN l ≤ l.length
  | [] => Nat.le_refl _
  | [c] => by rw [signN]; split <;> simp
  | c :: d :: l => by
    rw [signN, List.length_cons, List.length_cons]
    split
    · omega
    · split <;> omega
theorem signN_take : ∀ l, signN (l.take (signN l)) = signN l
  | [] => rfl
  | [c] => by
    by_cases h : oneB c = true
    · have e : signN [c] = 1 := by rw [signN, if_pos h]
      rw [e]; exact e
    · have e : signN [c] = 0 := by rw [signN, if_neg h]
      rw [e]; rfl
  | c :: d :: l => by
    by_cases h1 : twoB c d = true
    · have e : signN (c :: d :: l) = 2 := by rw [signN, if_pos h1]
      rw [e]
      show signN [c, d] = 2
      rw [signN, if_pos h1]
    · by_cases h2 : oneB c = true
      · have e : signN (c :: d :: l) = 1 := by rw [signN, if_neg h1, if_pos h2]
        rw [e]
        show signN [c] = 1
        rw [signN, if_pos h2]
      · have e : signN (c :: d :: l) = 0 := by rw [signN, if_neg h1, if_neg h2]
        rw [e]; rfl
theorem oneN_le : ∀ l, (oneN l).2.1 ≤ l.length
  | [] => Nat.zero_le _
  | c :: l => by
    have h1 := lenN_le wrdB (c :: l)
    have h2 := lenN_le digB (c :: l)
    have h3 := fracN_le ((c :: l).drop (lenN digB (c :: l)))
    rw [List.length_drop] at h3
    have h4 := quotN_le l
    have h5 := signN_le (c :: l)
    have e : (c :: l).length = l.length + 1 := List.length_cons
    rw [oneN]
    split
    · split
      · exact Nat.zero_le _
      · exact h1
    · split
      · split
        · exact Nat.zero_le _
        · show lenN digB (c :: l) + _ ≤ _; omega
      · split
        · split
          · split
            · exact Nat.zero_le _
            · show (quotN l).1 + 1 ≤ _; omega
          · exact Nat.zero_le _
        · split
          · exact Nat.zero_le _
          · exact h5
theorem oneN_pos : ∀ l, (oneN l).2.2 = 0 → 0 < (oneN l).2.1
  | [], h => by cases h
  | c :: l, h => by
    rw [oneN] at h ⊢
    split at h
    · rw [if_pos ‹_›]
      split at h
      · cases h
      · rw [if_neg ‹_›]
        show 0 < lenN wrdB (c :: l)
        rw [lenN, if_pos (by rw [wrdB, ‹letB c = true›]; rfl)]
        omega
    · rw [if_neg ‹_›]
      split at h
      · rw [if_pos ‹_›]
        split at h
        · cases h
        · rw [if_neg ‹_›]
          show 0 < lenN digB (c :: l) + _
          rw [lenN, if_pos ‹_›]
          omega
      · rw [if_neg ‹_›]
        split at h
        · rw [if_pos ‹_›]
          split at h
          · rw [if_pos ‹_›]
            split at h
            · cases h
            · rw [if_neg ‹_›]; exact Nat.succ_pos _
          · exact absurd h ‹_›
        · rw [if_neg ‹_›]
          split at h
          · cases h
          · rw [if_neg ‹_›]
            show 0 < signN (c :: l)
            omega
theorem oneN_code : ∀ l, (oneN l).2.2 ≠ 0 → (oneN l).1 = 0 ∧ (oneN l).2.1 = 0
  | [], h => ⟨rfl, rfl⟩
  | c :: l, h => by
    rw [oneN] at h ⊢
    split at h
    · rw [if_pos ‹_›]
      split at h
      · rw [if_pos ‹_›]; exact ⟨rfl, rfl⟩
      · exact absurd rfl h
    · rw [if_neg ‹_›]
      split at h
      · rw [if_pos ‹_›]
        split at h
        · rw [if_pos ‹_›]; exact ⟨rfl, rfl⟩
        · exact absurd rfl h
      · rw [if_neg ‹_›]
        split at h
        · rw [if_pos ‹_›]
          split at h
          · rw [if_pos ‹_›]
            split at h
            · rw [if_pos ‹_›]; exact ⟨rfl, rfl⟩
            · exact absurd rfl h
          · rw [if_neg ‹_›]; exact ⟨rfl, rfl⟩
        · rw [if_neg ‹_›]
          split at h
          · rw [if_pos ‹_›]; exact ⟨rfl, rfl⟩
          · exact absurd rfl h
/-- A token is that token by itself. -/
theorem oneN_take : ∀ l, (oneN l).2.2 = 0 → oneN (l.take (oneN l).2.1) = oneN l
  | [], h => by cases h
  | c :: l, h => by
    have hp := oneN_pos (c :: l) h
    obtain ⟨n, hn⟩ : ∃ n, (oneN (c :: l)).2.1 = n + 1 := ⟨(oneN (c :: l)).2.1 - 1, by omega⟩
    rw [hn, List.take_succ_cons]
    have et : ∀ k, k = n + 1 → (c :: l).take k = c :: l.take n := fun k hk => by rw [hk, List.take_succ_cons]
    rw [oneN] at hn h
    rw [oneN, oneN]
    by_cases h1 : letB c = true
    · rw [if_pos h1] at hn h
      rw [if_pos h1, if_pos h1]
      by_cases h2 : 64 < lenN wrdB (c :: l)
      · rw [if_pos h2] at hn; cases hn
      · rw [if_neg h2] at hn
        have hk : lenN wrdB (c :: l) = n + 1 := hn
        have := lenN_take (p := wrdB) (c :: l) _ (Nat.le_refl _)
        rw [et _ hk] at this
        rw [this]
    · rw [if_neg h1] at hn h
      rw [if_neg h1, if_neg h1]
      by_cases h2 : digB c = true
      · rw [if_pos h2] at hn h
        rw [if_pos h2, if_pos h2]
        by_cases h3 : 20 < lenN digB (c :: l) + (fracN ((c :: l).drop (lenN digB (c :: l)))).2
        · rw [if_pos h3] at hn; cases hn
        · rw [if_neg h3] at hn
          have hk : lenN digB (c :: l) + (fracN ((c :: l).drop (lenN digB (c :: l)))).2 = n + 1 := hn
          have h5 : lenN digB (c :: l.take n) = lenN digB (c :: l) := by
            rw [← et _ hk]
            -- the run ends where it ended
            have : ∀ (L : List UInt8) (k : Nat), lenN digB L ≤ k → lenN digB (L.take k) = lenN digB L := by
              intro L
              induction L with
              | nil => intro k _; rw [List.take_nil]
              | cons d L ih =>
                intro k hk
                by_cases hd : digB d = true
                · rw [lenN, if_pos hd] at hk
                  obtain ⟨q, rfl⟩ : ∃ q, k = q + 1 := ⟨k - 1, by omega⟩
                  rw [List.take_succ_cons, lenN, if_pos hd, ih q (by omega), lenN, if_pos hd]
                · cases k with
                  | zero => rw [List.take_zero, lenN, lenN, if_neg hd]
                  | succ q => rw [List.take_succ_cons, lenN, if_neg hd, lenN, if_neg hd]
            exact this (c :: l) _ (Nat.le_add_right _ _)
          have h6 : (c :: l.take n).drop (lenN digB (c :: l)) = ((c :: l).drop (lenN digB (c :: l))).take (fracN ((c :: l).drop (lenN digB (c :: l)))).2 := by
            rw [← et _ hk, List.drop_take, Nat.add_sub_cancel_left]
          rw [h5, h6, fracN_take]
      · rw [if_neg h2] at hn h
        rw [if_neg h2, if_neg h2]
        by_cases h3 : c = 34
        · rw [if_pos h3] at hn h
          rw [if_pos h3, if_pos h3]
          by_cases h4 : (quotN l).2 = 0
          · rw [if_pos h4] at hn
            by_cases h5 : 256 < (quotN l).1 + 1
            · rw [if_pos h5] at hn; cases hn
            · rw [if_neg h5] at hn
              have hk : (quotN l).1 = n := Nat.succ.inj hn
              have := quotN_take l h4
              rw [hk] at this
              rw [this]
          · rw [if_neg h4] at hn; cases hn
        · rw [if_neg h3] at hn
          rw [if_neg h3, if_neg h3]
          by_cases h4 : signN (c :: l) = 0
          · rw [if_pos h4] at hn; cases hn
          · rw [if_neg h4] at hn
            have hk : signN (c :: l) = n + 1 := hn
            have := signN_take (c :: l)
            rw [et _ hk] at this
            rw [this]
end Go.Proofs.YtmikdofplolmjaaGreatDoor.Lx
