/- What the tokens of a text are: in order, with blanks and comments alone between; by themselves; of two texts with a line end between; as lists of bytes, without any program; no condition beyond those named. -/
import Derived.Test.YtmikdofplolmjaaGreatDoorLexTheory
namespace Go.Proofs.YtmikdofplolmjaaGreatDoor.Lx
set_option linter.unusedVariables false
set_option linter.unusedSimpArgs false

/-- One step of cutting, told by what is skipped and the token behind it. -/
theorem lexN_end {f at_ n : Nat} {l : List UInt8} (h : skipN false l = l.length) : lexN (f + 1) at_ n l = ([(0, at_ + l.length, at_ + l.length)], 0, 0) := by
  rw [lexN, if_pos (List.drop_eq_nil_of_le (by omega)), h]
theorem drop_skip_ne {l : List UInt8} (h : skipN false l < l.length) : l.drop (skipN false l) ≠ [] := by
  intro e
  have := congrArg List.length e
  rw [List.length_drop, List.length_nil] at this
  omega
theorem lexN_long {f at_ n : Nat} {l : List UInt8} (h : skipN false l < l.length) (hn : 16384 ≤ n) : lexN (f + 1) at_ n l = ([], 2, at_ + skipN false l) := by
  rw [lexN, if_neg (drop_skip_ne h), if_pos hn]
theorem lexN_bad {f at_ n : Nat} {l : List UInt8} (h : skipN false l < l.length) (hn : n < 16384) (hc : (oneN (l.drop (skipN false l))).2.2 ≠ 0) : lexN (f + 1) at_ n l = ([], (oneN (l.drop (skipN false l))).2.2, at_ + skipN false l) := by
  rw [lexN, if_neg (drop_skip_ne h), if_neg (by omega), if_neg hc]
theorem lexN_one {f at_ n k len : Nat} {l l1 l2 : List UInt8} (hk : skipN false l = k) (h : k < l.length) (hn : n < 16384) (h1 : l.drop k = l1) (hc : (oneN l1).2.2 = 0) (hl : (oneN l1).2.1 = len) (h2 : l1.drop len = l2) :
    lexN (f + 1) at_ n l = if (lexN f (at_ + k + len) (n + 1) l2).2.1 = 0 then (((oneN l1).1, at_ + k, at_ + k + len) :: (lexN f (at_ + k + len) (n + 1) l2).1, 0, 0) else ([], (lexN f (at_ + k + len) (n + 1) l2).2) := by
  subst hk h1 hl h2
  rw [lexN, if_neg (drop_skip_ne h), if_neg (by omega), if_pos hc]
/-- The rounds don't matter, where they are enough. -/
theorem lexN_fuel : ∀ (f g at_ n : Nat) (l : List UInt8), l.length < f → l.length < g → lexN f at_ n l = lexN g at_ n l
  | 0, _, _, _, l, h, _ => absurd h (Nat.not_lt_zero _)
  | _ + 1, 0, _, _, l, _, h => absurd h (Nat.not_lt_zero _)
  | f + 1, g + 1, at_, n, l, h1, h2 => by
    have hk := skipN_le false l
    rcases Nat.lt_or_ge (skipN false l) l.length with hs | hs
    · by_cases hn : 16384 ≤ n
      · rw [lexN_long hs hn, lexN_long hs hn]
      · by_cases hc : (oneN (l.drop (skipN false l))).2.2 = 0
        · have hp := oneN_pos _ hc
          rw [lexN_one rfl hs (by omega) rfl hc rfl rfl, lexN_one rfl hs (by omega) rfl hc rfl rfl, lexN_fuel f g _ (n + 1) ((l.drop (skipN false l)).drop (oneN (l.drop (skipN false l))).2.1) (by rw [List.length_drop, List.length_drop]; omega) (by rw [List.length_drop, List.length_drop]; omega)]
        · rw [lexN_bad hs (by omega) hc, lexN_bad hs (by omega) hc]
    · rw [lexN_end (by omega), lexN_end (by omega)]
/-- An error has no tokens. -/
theorem lexN_none : ∀ (f at_ n : Nat) (l : List UInt8), (lexN f at_ n l).2.1 ≠ 0 → (lexN f at_ n l).1 = []
  | 0, _, _, _, h => absurd rfl h
  | f + 1, at_, n, l, h => by
    rw [lexN] at h ⊢
    split
    · rw [if_pos ‹_›] at h; exact absurd rfl h
    · split
      · rfl
      · split
        · split
          · rw [if_neg ‹_›, if_neg ‹_›, if_pos ‹_›, if_pos ‹_›] at h; exact absurd rfl h
          · rfl
        · rfl
/-- A text without an error tells no place of one. -/
theorem lexN_zero : ∀ (f at_ n : Nat) (l : List UInt8), (lexN f at_ n l).2.1 = 0 → (lexN f at_ n l).2.2 = 0
  | 0, _, _, _, _ => rfl
  | f + 1, at_, n, l, h => by
    rw [lexN] at h ⊢
    split at h
    · rw [if_pos ‹_›]
    · rw [if_neg ‹_›]
      split at h
      · cases h
      · rw [if_neg ‹_›]
        split at h
        · rw [if_pos ‹_›]
          split at h
          · rw [if_pos ‹_›]
          · exact absurd h ‹_›
        · exact absurd h ‹_›
/-- The tokens, one by one. -/
def Ch : Nat → List UInt8 → List (Nat × Nat × Nat) → Prop
  | _, _, [] => False
  | at_, l, [t] => t = (0, at_ + l.length, at_ + l.length) ∧ skipN false l = l.length
  | at_, l, t :: u :: ts => skipN false l < l.length ∧ (oneN (l.drop (skipN false l))).2.2 = 0 ∧ t = ((oneN (l.drop (skipN false l))).1, at_ + skipN false l, at_ + skipN false l + (oneN (l.drop (skipN false l))).2.1) ∧
      Ch (at_ + skipN false l + (oneN (l.drop (skipN false l))).2.1) ((l.drop (skipN false l)).drop (oneN (l.drop (skipN false l))).2.1) (u :: ts)
theorem lexN_ch : ∀ (f at_ n : Nat) (l : List UInt8), l.length < f → (lexN f at_ n l).2.1 = 0 → Ch at_ l (lexN f at_ n l).1
  | 0, _, _, l, h, _ => absurd h (Nat.not_lt_zero _)
  | f + 1, at_, n, l, h1, h => by
    have hk := skipN_le false l
    rcases Nat.lt_or_ge (skipN false l) l.length with hs | hs
    · by_cases hn : 16384 ≤ n
      · rw [lexN_long hs hn] at h; cases h
      · by_cases hc : (oneN (l.drop (skipN false l))).2.2 = 0
        · have hp := oneN_pos _ hc
          have e := lexN_one (f := f) (at_ := at_) rfl hs (Nat.lt_of_not_le hn) rfl hc rfl rfl
          rw [e] at h ⊢
          have ih := lexN_ch f (at_ + skipN false l + (oneN (l.drop (skipN false l))).2.1) (n + 1) ((l.drop (skipN false l)).drop (oneN (l.drop (skipN false l))).2.1) (by rw [List.length_drop, List.length_drop]; omega)
          generalize lexN f (at_ + skipN false l + (oneN (l.drop (skipN false l))).2.1) (n + 1) ((l.drop (skipN false l)).drop (oneN (l.drop (skipN false l))).2.1) = q at h ih ⊢
          by_cases hq : q.2.1 = 0
          · rw [if_pos hq]
            have ih := ih hq
            cases hT : q.1 with
            | nil => rw [hT] at ih; exact ih.elim
            | cons u ts => rw [hT] at ih; exact ⟨hs, hc, rfl, ih⟩
          · rw [if_neg hq] at h; exact absurd h hq
        · rw [lexN_bad hs (by omega) hc] at h; exact absurd h hc
    · rw [lexN_end (by omega)]
      exact ⟨rfl, by omega⟩
theorem Ch.length : ∀ {at_ : Nat} {l : List UInt8} {ts : List (Nat × Nat × Nat)}, Ch at_ l ts → ts.length ≤ l.length + 1
  | _, _, [], h => h.elim
  | _, _, [t], _ => Nat.succ_le_succ (Nat.zero_le _)
  | at_, l, t :: u :: ts, h => by
    obtain ⟨h1, h2, _, h3⟩ := h
    have := h3.length
    have := oneN_pos _ h2
    rw [List.length_drop, List.length_drop] at *
    rw [List.length_cons]
    omega
/-- A token that is one is of a kind that isn't the end's. -/
theorem oneN_kind : ∀ l, (oneN l).2.2 = 0 → 1 ≤ (oneN l).1 ∧ (oneN l).1 ≤ 5
  | [], h => by cases h
  | c :: l, h => by
    rw [oneN] at h ⊢
    by_cases h1 : letB c = true
    · rw [if_pos h1] at h ⊢
      by_cases h2 : 64 < lenN wrdB (c :: l)
      · rw [if_pos h2] at h; cases h
      · rw [if_neg h2]; exact ⟨Nat.le_of_ble_eq_true rfl, Nat.le_of_ble_eq_true rfl⟩
    · rw [if_neg h1] at h ⊢
      by_cases h2 : digB c = true
      · rw [if_pos h2] at h ⊢
        by_cases h3 : 20 < lenN digB (c :: l) + (fracN ((c :: l).drop (lenN digB (c :: l)))).2
        · rw [if_pos h3] at h; cases h
        · rw [if_neg h3]
          show 1 ≤ (fracN ((c :: l).drop (lenN digB (c :: l)))).1 ∧ (fracN ((c :: l).drop (lenN digB (c :: l)))).1 ≤ 5
          generalize (c :: l).drop (lenN digB (c :: l)) = m
          rcases m with _ | ⟨a, _ | ⟨b, m⟩⟩
          · exact ⟨Nat.le_of_ble_eq_true rfl, Nat.le_of_ble_eq_true rfl⟩
          · exact ⟨Nat.le_of_ble_eq_true rfl, Nat.le_of_ble_eq_true rfl⟩
          · rw [fracN]; split <;> exact ⟨Nat.le_of_ble_eq_true rfl, Nat.le_of_ble_eq_true rfl⟩
      · rw [if_neg h2] at h ⊢
        by_cases h3 : c = 34
        · rw [if_pos h3] at h ⊢
          by_cases h4 : (quotN l).2 = 0
          · rw [if_pos h4] at h ⊢
            by_cases h5 : 256 < (quotN l).1 + 1
            · rw [if_pos h5] at h; cases h
            · rw [if_neg h5]; exact ⟨Nat.le_of_ble_eq_true rfl, Nat.le_of_ble_eq_true rfl⟩
          · rw [if_neg h4] at h; exact absurd h h4
        · rw [if_neg h3] at h ⊢
          by_cases h4 : signN (c :: l) = 0
          · rw [if_pos h4] at h; cases h
          · rw [if_neg h4]; exact ⟨Nat.le_of_ble_eq_true rfl, Nat.le_of_ble_eq_true rfl⟩
/-- A token, cut by itself, is that token. -/
theorem lexN_alone {l1 : List UInt8} (hs : skipN false l1 = 0) (hc : (oneN l1).2.2 = 0) (f : Nat) : lexN (f + 2) 0 0 (l1.take (oneN l1).2.1) = ([((oneN l1).1, 0, (oneN l1).2.1), (0, (oneN l1).2.1, (oneN l1).2.1)], 0, 0) := by
  have hp := oneN_pos _ hc
  have hl := oneN_le l1
  have ht := oneN_take l1 hc
  have hlen : (l1.take (oneN l1).2.1).length = (oneN l1).2.1 := by rw [List.length_take]; omega
  have h0 := skipN_first (n := (oneN l1).2.1) hs
  rw [lexN_one (f := f + 1) (k := 0) (len := (oneN l1).2.1) (l1 := l1.take (oneN l1).2.1) (l2 := []) h0 (by omega) (by decide) rfl (by rw [ht]; exact hc) (by rw [ht]) (List.drop_eq_nil_of_le (by omega)), lexN_end (by rfl), if_pos rfl, ht]
  simp
/-- Where a text's beginning is of no matter. -/
def shiftT (d : Nat) (ts : List (Nat × Nat × Nat)) : List (Nat × Nat × Nat) := ts.map fun t => (t.1, t.2.1 + d, t.2.2 + d)
theorem lexN_shift (d : Nat) : ∀ (f at_ n : Nat) (l : List UInt8), lexN f (at_ + d) n l = (shiftT d (lexN f at_ n l).1, (lexN f at_ n l).2.1, if (lexN f at_ n l).2.1 = 0 then 0 else (lexN f at_ n l).2.2 + d)
  | 0, _, _, _ => rfl
  | f + 1, at_, n, l => by
    have hk := skipN_le false l
    rcases Nat.lt_or_ge (skipN false l) l.length with hs | hs
    · by_cases hn : 16384 ≤ n
      · rw [lexN_long hs hn, lexN_long hs hn]
        simp [shiftT]; omega
      · by_cases hc : (oneN (l.drop (skipN false l))).2.2 = 0
        · rw [lexN_one rfl hs (by omega) rfl hc rfl rfl, lexN_one rfl hs (by omega) rfl hc rfl rfl]
          have ih := lexN_shift d f (at_ + skipN false l + (oneN (l.drop (skipN false l))).2.1) (n + 1) ((l.drop (skipN false l)).drop (oneN (l.drop (skipN false l))).2.1)
          rw [show at_ + d + skipN false l + (oneN (l.drop (skipN false l))).2.1 = at_ + skipN false l + (oneN (l.drop (skipN false l))).2.1 + d by omega, ih]
          generalize lexN f (at_ + skipN false l + (oneN (l.drop (skipN false l))).2.1) (n + 1) ((l.drop (skipN false l)).drop (oneN (l.drop (skipN false l))).2.1) = q
          by_cases hq : q.2.1 = 0
          · rw [if_pos hq, if_pos hq]
            simp only [hq, shiftT, List.map_cons, if_true]
            rw [show at_ + d + skipN false l = at_ + skipN false l + d by omega]
          · rw [if_neg hq, if_neg hq]
            simp [hq, shiftT]
        · rw [lexN_bad hs (by omega) hc, lexN_bad hs (by omega) hc]
          simp [shiftT, hc]; omega
    · rw [lexN_end (by omega), lexN_end (by omega)]
      simp [shiftT]; omega
/-- How many there were is of no matter, where there is room. -/
theorem lexN_count : ∀ (f at_ n m : Nat) (l : List UInt8), n + l.length ≤ 16384 → m + l.length ≤ 16384 → lexN f at_ n l = lexN f at_ m l
  | 0, _, _, _, _, _, _ => rfl
  | f + 1, at_, n, m, l, h1, h2 => by
    have hk := skipN_le false l
    rcases Nat.lt_or_ge (skipN false l) l.length with hs | hs
    · by_cases hc : (oneN (l.drop (skipN false l))).2.2 = 0
      · have hp := oneN_pos _ hc
        have hl := oneN_le (l.drop (skipN false l))
        rw [List.length_drop] at hl
        rw [lexN_one rfl hs (by omega) rfl hc rfl rfl, lexN_one rfl hs (by omega) rfl hc rfl rfl, lexN_count f _ (n + 1) (m + 1) _ (by rw [List.length_drop, List.length_drop]; omega) (by rw [List.length_drop, List.length_drop]; omega)]
      · rw [lexN_bad hs (by omega) hc, lexN_bad hs (by omega) hc]
    · rw [lexN_end (by omega), lexN_end (by omega)]
/-- Two texts with a line end between: the first one's error, if it has one that more bytes can't mend. -/
theorem lexN_line_bad (m : List UInt8) : ∀ (f g at_ n : Nat) (l : List UInt8), l.length < f → (l ++ 10 :: m).length < g → n + l.length ≤ 16384 → (lexN f at_ n l).2.1 ≠ 0 → (lexN f at_ n l).2.1 ≠ 61 → lexN g at_ n (l ++ 10 :: m) = lexN f at_ n l
  | 0, _, _, _, _, h, _, _, _, _ => absurd h (Nat.not_lt_zero _)
  | _, 0, _, _, _, _, h, _, _, _ => absurd h (Nat.not_lt_zero _)
  | f + 1, g + 1, at_, n, l, hf, hg, hn, h0, h61 => by
    have hk := skipN_le false l
    rcases Nat.lt_or_ge (skipN false l) l.length with hs | hs
    · have hsk : skipN false (l ++ 10 :: m) = skipN false l := by rw [skipN_line, if_neg (by omega)]
      have hs2 : skipN false (l ++ 10 :: m) < (l ++ 10 :: m).length := by rw [hsk, List.length_append]; omega
      have hd : (l ++ 10 :: m).drop (skipN false l) = l.drop (skipN false l) ++ 10 :: m := drop_stop hk _
      have hne := drop_skip_ne hs
      by_cases hc : (oneN (l.drop (skipN false l))).2.2 = 0
      · have hp := oneN_pos _ hc
        have hl := oneN_le (l.drop (skipN false l))
        have ho : oneN (l.drop (skipN false l) ++ 10 :: m) = oneN (l.drop (skipN false l)) := oneN_line m _ hne (by rw [hc]; decide)
        have e1 := lexN_one (f := f) (at_ := at_) rfl hs (by omega : n < 16384) rfl hc rfl rfl
        rw [e1] at h0 h61 ⊢
        rw [lexN_one (k := skipN false l) (len := (oneN (l.drop (skipN false l))).2.1) (l1 := l.drop (skipN false l) ++ 10 :: m) (l2 := (l.drop (skipN false l)).drop (oneN (l.drop (skipN false l))).2.1 ++ 10 :: m) hsk (by omega) (by omega) hd (by rw [ho]; exact hc) (by rw [ho]) (drop_stop hl _), ho]
        have hq : (lexN f (at_ + skipN false l + (oneN (l.drop (skipN false l))).2.1) (n + 1) ((l.drop (skipN false l)).drop (oneN (l.drop (skipN false l))).2.1)).2.1 ≠ 0 := by
          intro hq; rw [if_pos hq] at h0; exact absurd rfl h0
        rw [if_neg hq] at h0 h61 ⊢
        rw [List.length_drop] at hl
        rw [lexN_line_bad m f g _ (n + 1) ((l.drop (skipN false l)).drop (oneN (l.drop (skipN false l))).2.1) (by rw [List.length_drop, List.length_drop]; omega) (by rw [List.length_append, List.length_drop, List.length_drop] at *; omega) (by rw [List.length_drop, List.length_drop]; omega) h0 h61, if_neg hq]
      · rw [lexN_bad hs (by omega) hc] at h61 ⊢
        have ho : oneN (l.drop (skipN false l) ++ 10 :: m) = oneN (l.drop (skipN false l)) := oneN_line m _ hne h61
        have := lexN_bad (f := g) (at_ := at_) (n := n) hs2 (by omega) (by rw [hsk, hd, ho]; exact hc)
        rw [this, hsk, hd, ho]
    · rw [lexN_end (by omega)] at h0; exact absurd rfl h0
/-- .. or its tokens, and those of the second one behind them. -/
theorem lexN_line (m : List UInt8) : ∀ (f g h at_ n : Nat) (l : List UInt8), l.length < f → (l ++ 10 :: m).length < g → m.length < h → n + (l ++ 10 :: m).length ≤ 16384 → (lexN f at_ n l).2.1 = 0 →
    lexN g at_ n (l ++ 10 :: m) = if (lexN h (at_ + l.length + 1) 0 m).2.1 = 0 then ((lexN f at_ n l).1.dropLast ++ (lexN h (at_ + l.length + 1) 0 m).1, 0, 0) else ([], (lexN h (at_ + l.length + 1) 0 m).2)
  | 0, _, _, _, _, _, h, _, _, _, _ => absurd h (Nat.not_lt_zero _)
  | _, 0, _, _, _, _, _, h, _, _, _ => absurd h (Nat.not_lt_zero _)
  | f + 1, g + 1, h, at_, n, l, hf, hg, hh, hn, h0 => by
    have hk := skipN_le false l
    have hm : (l ++ 10 :: m).length = l.length + (m.length + 1) := by rw [List.length_append, List.length_cons]
    rcases Nat.lt_or_ge (skipN false l) l.length with hs | hs
    · have hsk : skipN false (l ++ 10 :: m) = skipN false l := by rw [skipN_line, if_neg (by omega)]
      have hd : (l ++ 10 :: m).drop (skipN false l) = l.drop (skipN false l) ++ 10 :: m := drop_stop hk _
      have hne := drop_skip_ne hs
      by_cases hc : (oneN (l.drop (skipN false l))).2.2 = 0
      · have hp := oneN_pos _ hc
        have hl := oneN_le (l.drop (skipN false l))
        have ho : oneN (l.drop (skipN false l) ++ 10 :: m) = oneN (l.drop (skipN false l)) := oneN_line m _ hne (by rw [hc]; decide)
        have e1 := lexN_one (f := f) (at_ := at_) rfl hs (by omega : n < 16384) rfl hc rfl rfl
        rw [e1] at h0 ⊢
        rw [lexN_one (k := skipN false l) (len := (oneN (l.drop (skipN false l))).2.1) (l1 := l.drop (skipN false l) ++ 10 :: m) (l2 := (l.drop (skipN false l)).drop (oneN (l.drop (skipN false l))).2.1 ++ 10 :: m) hsk (by omega) (by omega) hd (by rw [ho]; exact hc) (by rw [ho]) (drop_stop hl _), ho]
        have hq : (lexN f (at_ + skipN false l + (oneN (l.drop (skipN false l))).2.1) (n + 1) ((l.drop (skipN false l)).drop (oneN (l.drop (skipN false l))).2.1)).2.1 = 0 := by
          by_cases hq : (lexN f (at_ + skipN false l + (oneN (l.drop (skipN false l))).2.1) (n + 1) ((l.drop (skipN false l)).drop (oneN (l.drop (skipN false l))).2.1)).2.1 = 0
          · exact hq
          · rw [if_neg hq] at h0; exact h0
        rw [if_pos hq]
        rw [List.length_drop] at hl
        have hL : ((l.drop (skipN false l)).drop (oneN (l.drop (skipN false l))).2.1).length = l.length - skipN false l - (oneN (l.drop (skipN false l))).2.1 := by rw [List.length_drop, List.length_drop]
        have hch := lexN_ch f (at_ + skipN false l + (oneN (l.drop (skipN false l))).2.1) (n + 1) ((l.drop (skipN false l)).drop (oneN (l.drop (skipN false l))).2.1) (by omega) hq
        have ih := lexN_line m f g h (at_ + skipN false l + (oneN (l.drop (skipN false l))).2.1) (n + 1) ((l.drop (skipN false l)).drop (oneN (l.drop (skipN false l))).2.1) (by omega) (by rw [List.length_append, hL, List.length_cons]; omega) hh (by rw [List.length_append, hL, List.length_cons]; omega) hq
        rw [hL, show at_ + skipN false l + (oneN (l.drop (skipN false l))).2.1 + (l.length - skipN false l - (oneN (l.drop (skipN false l))).2.1) + 1 = at_ + l.length + 1 by omega] at ih
        rw [ih]
        generalize lexN h (at_ + l.length + 1) 0 m = p
        generalize lexN f (at_ + skipN false l + (oneN (l.drop (skipN false l))).2.1) (n + 1) ((l.drop (skipN false l)).drop (oneN (l.drop (skipN false l))).2.1) = q at hch
        by_cases hp : p.2.1 = 0
        · rw [if_pos hp, if_pos hp, if_pos rfl]
          cases hT : q.1 with
          | nil => rw [hT] at hch; exact hch.elim
          | cons u ts => rfl
        · rw [if_neg hp, if_neg hp, if_neg hp]
      · rw [lexN_bad hs (by omega) hc] at h0; exact absurd h0 hc
    · have hs' : skipN false l = l.length := by omega
      have hsk : skipN false (l ++ 10 :: m) = l.length + 1 + skipN false m := by rw [skipN_line, if_pos hs']
      rw [lexN_end (f := f) (at_ := at_) (n := n) hs']
      have hkm := skipN_le false m
      have hdm : ∀ k, (l ++ 10 :: m).drop (l.length + 1 + k) = m.drop k := fun k => by
        rw [List.drop_append, List.drop_eq_nil_of_le (by omega), List.nil_append, show l.length + 1 + k - l.length = k + 1 by omega, List.drop_succ_cons]
      have : lexN (g + 1) at_ n (l ++ 10 :: m) = lexN (g + 1) (at_ + l.length + 1) n m := by
        rcases Nat.lt_or_ge (skipN false m) m.length with hsm | hsm
        · by_cases hc : (oneN (m.drop (skipN false m))).2.2 = 0
          · rw [lexN_one (k := l.length + 1 + skipN false m) (len := (oneN (m.drop (skipN false m))).2.1) (l1 := m.drop (skipN false m)) (l2 := (m.drop (skipN false m)).drop (oneN (m.drop (skipN false m))).2.1) hsk (by omega) (by omega) (hdm _) hc rfl rfl, lexN_one rfl hsm (by omega) rfl hc rfl rfl]
            rw [show at_ + (l.length + 1 + skipN false m) = at_ + l.length + 1 + skipN false m by omega]
          · have := lexN_bad (f := g) (at_ := at_) (n := n) (l := l ++ 10 :: m) (by rw [hsk, hm]; omega) (by omega) (by rw [hsk, hdm]; exact hc)
            rw [this, lexN_bad hsm (by omega) hc, hsk, hdm]
            rw [show at_ + (l.length + 1 + skipN false m) = at_ + l.length + 1 + skipN false m by omega]
        · rw [lexN_end (by rw [hsk, hm]; omega), lexN_end (by omega), hm]
          rw [show at_ + (l.length + (m.length + 1)) = at_ + l.length + 1 + m.length by omega]
      rw [this, lexN_count (g + 1) _ n 0 m (by omega) (by omega), lexN_fuel (g + 1) h _ 0 m (by omega) hh]
      generalize hP : lexN h (at_ + l.length + 1) 0 m = p
      by_cases hp : p.2.1 = 0
      · rw [if_pos hp]
        have : p.2.2 = 0 := by
          rw [← hP] at hp ⊢
          clear hP this
          -- a text without an error tells no place
          have : ∀ (f at_ n : Nat) (l : List UInt8), (lexN f at_ n l).2.1 = 0 → (lexN f at_ n l).2.2 = 0 := by
            intro f
            cases f with
            | zero => intros; rfl
            | succ f =>
              intro at_ n l h
              rw [lexN] at h ⊢
              split at h
              · rw [if_pos ‹_›]
              · rw [if_neg ‹_›]
                split at h
                · cases h
                · rw [if_neg ‹_›]
                  split at h
                  · rw [if_pos ‹_›]
                    split at h
                    · rw [if_pos ‹_›]
                    · exact absurd h ‹_›
                  · exact absurd h ‹_›
          exact this _ _ _ _ hp
        rw [show p = (p.1, p.2.1, p.2.2) from rfl, hp, this]
        simp
      · rw [if_neg hp]
        have := lexN_none h (at_ + l.length + 1) 0 m (by rw [hP]; exact hp)
        rw [hP] at this
        rw [← this]
/-- Signs alone. -/
theorem lexN_signs : ∀ (m f at_ n : Nat), m < f → n + m ≤ 16384 → (lexN f at_ n (List.replicate m 59)).2.1 = 0 ∧ (lexN f at_ n (List.replicate m 59)).1.length = m + 1
  | 0, f + 1, at_, n, _, _ => by rw [List.replicate_zero, lexN_end rfl]; exact ⟨rfl, rfl⟩
  | m + 1, 0, _, _, h, _ => absurd h (Nat.not_lt_zero _)
  | m + 1, f + 1, at_, n, h1, h2 => by
    have h0 : skipN false (List.replicate (m + 1) 59) = 0 := by rw [List.replicate_succ, skipN, if_neg (by decide), if_neg (fun h => absurd h.1 (by decide))]
    have h3 : oneN (List.replicate (m + 1) (59 : UInt8)) = (5, 1, 0) := by
      cases m with
      | zero => decide
      | succ m =>
        rw [List.replicate_succ, List.replicate_succ]
        have : signN (59 :: 59 :: List.replicate m 59) = 1 := by rw [signN, if_neg (by decide), if_pos (by decide)]
        rw [oneN, if_neg (by decide), if_neg (by decide), if_neg (by decide), this]
        rfl
    have ih := lexN_signs m f (at_ + 0 + 1) (n + 1) (by omega) (by omega)
    rw [lexN_one (k := 0) (len := 1) (l1 := List.replicate (m + 1) 59) (l2 := List.replicate m 59) h0 (by simp) (by omega) rfl (by rw [h3]) (by rw [h3]) (by rw [List.replicate_succ, List.drop_succ_cons, List.drop_zero]), if_pos ih.1]
    exact ⟨rfl, by rw [List.length_cons, ih.2]⟩
theorem lexN_many : ∀ (m f at_ n : Nat), m < f → n ≤ 16384 → 16384 < n + m → lexN f at_ n (List.replicate m 59) = ([], 2, at_ + (16384 - n))
  | 0, _, _, _, _, h, h2 => absurd h2 (by omega)
  | m + 1, 0, _, _, h, _, _ => absurd h (Nat.not_lt_zero _)
  | m + 1, f + 1, at_, n, h1, h2, h3 => by
    have h0 : skipN false (List.replicate (m + 1) 59) = 0 := by rw [List.replicate_succ, skipN, if_neg (by decide), if_neg (fun h => absurd h.1 (by decide))]
    have h4 : oneN (List.replicate (m + 1) (59 : UInt8)) = (5, 1, 0) := by
      cases m with
      | zero => decide
      | succ m =>
        rw [List.replicate_succ, List.replicate_succ]
        have : signN (59 :: 59 :: List.replicate m 59) = 1 := by rw [signN, if_neg (by decide), if_pos (by decide)]
        rw [oneN, if_neg (by decide), if_neg (by decide), if_neg (by decide), this]
        rfl
    by_cases hn : n = 16384
    · subst hn
      rw [lexN_long (by rw [h0]; simp) (Nat.le_refl _), h0]
    · have ih := lexN_many m f (at_ + 0 + 1) (n + 1) (by omega) (by omega) (by omega)
      rw [lexN_one (k := 0) (len := 1) (l1 := List.replicate (m + 1) 59) (l2 := List.replicate m 59) h0 (by simp) (by omega) rfl (by rw [h4]) (by rw [h4]) (by rw [List.replicate_succ, List.drop_succ_cons, List.drop_zero]), ih, if_neg (fun h => by cases h)]
      show ([], 2, at_ + 0 + 1 + (16384 - (n + 1))) = _
      rw [show at_ + 0 + 1 + (16384 - (n + 1)) = at_ + (16384 - n) by omega]
theorem lenN_all {p : UInt8 → Bool} {c : UInt8} (h : p c = true) : ∀ n, lenN p (List.replicate n c) = n
  | 0 => rfl
  | n + 1 => by rw [List.replicate_succ, lenN, if_pos h, lenN_all h n]
/-- One token that is all. -/
theorem lexN_only {l : List UInt8} {k : Nat} (hs : skipN false l = 0) (hl : 0 < l.length) (hc : oneN l = (k, l.length, 0)) (f at_ : Nat) : lexN (f + 2) at_ 0 l = ([(k, at_, at_ + l.length), (0, at_ + l.length, at_ + l.length)], 0, 0) := by
  rw [lexN_one (f := f + 1) (k := 0) (len := l.length) (l1 := l) (l2 := []) hs hl (by decide) rfl (by rw [hc]) (by rw [hc]) (List.drop_eq_nil_of_le (Nat.le_refl _)), lexN_end (by rfl), if_pos rfl, hc]
  simp
end Go.Proofs.YtmikdofplolmjaaGreatDoor.Lx
