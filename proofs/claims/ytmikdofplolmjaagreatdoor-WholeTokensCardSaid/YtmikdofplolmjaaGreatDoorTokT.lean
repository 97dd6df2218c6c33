import Derived.Test.YtmikdofplolmjaaGreatDoorPureLexLib
import Derived.Test.YtmikdofplolmjaaGreatDoorLexTheory3
import Derived.Test.YtmikdofplolmjaaGreatDoorX14
import Derived.Test.YtmikdofplolmjaaGreatDoorM44
namespace Go.Proofs.YtmikdofplolmjaaGreatDoor.Pure
open Go.RowKit Go.Proofs.YtmikdofplolmjaaGreatDoor.X Go.Proofs.YtmikdofplolmjaaGreatDoorW.PrintWords Go.Proofs.YtmikdofplolmjaaGreatDoorW.PrintLast Go.Proofs.YtmikdofplolmjaaGreatDoor.Lx
set_option linter.unusedVariables false
set_option linter.unusedSimpArgs false
theorem letter_all : ∀ n : Fin 256, lex_letter.f (n.val : Int) = some (letB (UInt8.ofNat n.val)) ∧ lex_digit.f (n.val : Int) = some (digB (UInt8.ofNat n.val)) := by decide +kernel
theorem letter_at (c : UInt8) : lex_letter.f (c.toNat : Int) = some (letB c) ∧ lex_digit.f (c.toNat : Int) = some (digB c) := by
  have h := letter_all ⟨c.toNat, c.toNat_lt⟩
  rw [UInt8.ofNat_toNat] at h
  exact h
/-- May the bytes be a name's; the first is the name's first. -/
def nmB : Bool → List UInt8 → Bool
  | _, [] => true
  | b, c :: m => (letB c || (!b && digB c)) && nmB false m
theorem kept_lex (s : ByteArray) (hs : s.size ≤ 200) : lex_Kept.f s = some (keptB s.data.toList) := by
  unfold lex_Kept.f
  rw [if_pos (by omega)]
theorem name_any (s : ByteArray) (hs : s.size ≤ 200) (n : Int) (hn : n = (s.size : Int)) : ∀ (d i : Nat), s.size - i = d → i ≤ s.size → Ev (fun k => lex_Name.l0 k s n (i : Int)) (nmB (i == 0) (s.data.toList.drop i) && (!s.data.toList.isEmpty && (decide (s.size ≤ 64) && !keptB s.data.toList))) := by
  intro d
  induction d with
  | zero =>
    intro i h1 h2
    rw [drope (by omega), nmB, Bool.true_and]
    refine Ev.step (fun k => by rw [lex_Name.l0]) (Ev.neg (by omega) ?_)
    rw [Lib.toList_data]
    refine Ev.ite (fun h => ?_) (fun h => ?_)
    · rw [h]
      exact Ev.eq rfl
    · have : s.data.toList.isEmpty = false := by simpa using h
      rw [this, Bool.not_false, Bool.true_and]
      refine Ev.ite (fun h => ?_) (fun h => ?_)
      · rw [kept_lex s hs, decide_eq_true (show s.size ≤ 64 by omega), Bool.true_and]
        exact Ev.eq rfl
      · rw [decide_eq_false (show ¬ s.size ≤ 64 by omega)]
        exact Ev.eq rfl
  | succ d ih =>
    intro i h1 h2
    have hi : i < s.size := by omega
    obtain ⟨l2, l4⟩ := letter_at s[i]
    have ih1 := ih (i + 1) (by omega) (by omega)
    rw [show (i + 1 == 0) = false from rfl] at ih1
    rw [dropn hi, nmB]
    obtain ⟨E, hE⟩ : ∃ E, (!s.data.toList.isEmpty && (decide (s.size ≤ 64) && !keptB s.data.toList)) = E := ⟨_, rfl⟩
    rw [hE] at ih1 ⊢
    obtain ⟨M, hM⟩ : ∃ M, nmB false (s.data.toList.drop (i + 1)) = M := ⟨_, rfl⟩
    rw [hM] at ih1 ⊢
    have nx : Ev (fun k => lex_Name.l0 k s n (wrap64 ((i : Int) + 1))) (M && E) := by rw [wrap_succ (n := i + 1) (by omega) (by omega)]; exact ih1
    refine Ev.step (fun k => by rw [lex_Name.l0]) (Ev.pos (by omega) (Ev.pos (by omega) (Ev.pos (by omega) ?_)))
    rw [btn hi, l2, l4]
    show Ev (fun k => if letB s[i] = true then _ else (if (i : Int) = 0 then _ else (if digB s[i] = true then _ else _))) _
    refine Ev.ite (fun hl => ?_) (fun hl => ?_)
    · rw [hl]
      exact nx
    · have hl' : letB s[i] = false := by simpa using hl
      rw [hl']
      refine Ev.ite (fun h0 => ?_) (fun h0 => ?_)
      · rw [show (i == 0) = true from beq_iff_eq.2 (by omega)]
        exact Ev.eq rfl
      · rw [show (i == 0) = false from beq_eq_false_iff_ne.2 (by omega)]
        refine Ev.ite (fun hd => ?_) (fun hd => ?_)
        · rw [hd]
          exact nx
        · have hd' : digB s[i] = false := by simpa using hd
          rw [hd']
          exact Ev.eq rfl
theorem byte_eq {s : ByteArray} {l : List UInt8} (h : s.data.toList = l) : (⟨l.toArray⟩ : ByteArray) = s := by
  subst h
  cases s
  simp
theorem name_word : ∀ l : List UInt8, lenN wrdB l = l.length → nmB false l = true
  | [], _ => rfl
  | c :: l, h => by
    rw [lenN, List.length_cons] at h
    by_cases hc : wrdB c = true
    · rw [if_pos hc] at h
      rw [nmB, name_word l (by omega)]
      unfold wrdB at hc
      rw [Bool.not_false, Bool.true_and, hc]
      rfl
    · rw [if_neg hc] at h; omega
theorem one_word {M : List UInt8} {len : Nat} (h : oneN M = (1, len, 0)) : M ≠ [] ∧ lenN wrdB M = len ∧ len ≤ 64 ∧ ∃ c l, M = c :: l ∧ letB c = true := by
  cases M with
  | nil => rw [oneN] at h; injection h with h1 h2; cases h1
  | cons c l =>
    rw [oneN] at h
    split at h
    · rename_i hl
      split at h
      · injection h with h1 h2; cases h1
      · injection h with h1 h2
        injection h2 with h2 h3
        exact ⟨by simp, h2, by omega, c, l, rfl, hl⟩
    · split at h
      · split at h
        · injection h with h1 h2; cases h1
        · injection h with h1 h2
          unfold fracN at h1
          split at h1
          · split at h1 <;> cases h1
          · cases h1
      · split at h
        · split at h
          · split at h
            · injection h with h1 h2; cases h1
            · injection h with h1 h2; cases h1
          · injection h with h1 h2; cases h1
        · split at h
          · injection h with h1 h2; cases h1
          · injection h with h1 h2; cases h1
theorem one_text {M : List UInt8} {len : Nat} (h : oneN M = (4, len, 0)) : ∃ l, M = 34 :: l ∧ (quotN l).2 = 0 ∧ (quotN l).1 + 1 = len ∧ len ≤ 256 := by
  cases M with
  | nil => rw [oneN] at h; injection h with h1 h2; cases h1
  | cons c l =>
    rw [oneN] at h
    split at h
    · split at h
      · injection h with h1 h2; cases h1
      · injection h with h1 h2; cases h1
    · split at h
      · split at h
        · injection h with h1 h2; cases h1
        · injection h with h1 h2
          unfold fracN at h1
          split at h1
          · split at h1 <;> cases h1
          · cases h1
      · split at h
        · rename_i hc
          subst hc
          split at h
          · rename_i hq
            split at h
            · injection h with h1 h2; cases h1
            · injection h with h1 h2
              injection h2 with h2 h3
              exact ⟨l, rfl, hq, h2, by omega⟩
          · injection h with h1 h2; cases h1
        · split at h
          · injection h with h1 h2; cases h1
          · injection h with h1 h2; cases h1
/-- A word that is cut is a name, or one that the language keeps. -/
theorem word_token (m : ByteArray) (h : oneN m.data.toList = (1, m.size, 0)) : lex_Kept.f m = some (keptB m.data.toList) ∧ Ev (fun k => lex_Name.f k m) (!keptB m.data.toList) := by
  obtain ⟨h0, h1, h2, c, l, h3, h4⟩ := one_word h
  have hs : m.size ≤ 200 := by omega
  refine ⟨kept_lex m hs, ?_⟩
  have h5 := name_any m hs _ rfl _ 0 rfl (Nat.zero_le _)
  rw [List.drop_zero, show (0 == 0) = true from rfl] at h5
  have hw := name_word m.data.toList (by rw [h1, lenl])
  have hn : nmB true m.data.toList = true := by
    rw [h3] at hw ⊢
    rw [nmB] at hw ⊢
    rw [Bool.and_eq_true] at hw
    rw [h4, hw.2]
    rfl
  have he : m.data.toList.isEmpty = false := by rw [h3]; rfl
  rw [hn, he, decide_eq_true h2, Bool.not_false, Bool.true_and, Bool.true_and, Bool.true_and] at h5
  unfold lex_Name.f
  exact h5
theorem unqL_len : ∀ l : List UInt8, (unqL l).length ≤ l.length
  | [] => Nat.le_refl _
  | [_] => Nat.zero_le _
  | c :: d :: l => by
    have h1 := unqL_len l
    have h2 := unqL_len (d :: l)
    rw [unqL]
    split
    · simp only [List.length_cons]; omega
    · simp only [List.length_cons] at h2 ⊢; omega
/-- A text in quotes that is cut says something, which is quoted as a text that says it. -/
theorem text_token (m : ByteArray) (h : oneN m.data.toList = (4, m.size, 0)) : ∃ u q : ByteArray, lex_Unquote.f m = some (u, 0) ∧ lex_Quote.f u = some (q, 0) ∧ lex_Unquote.f q = some (u, 0) := by
  obtain ⟨l, h1, h2, h3, h4⟩ := one_text h
  have hlen : l.length + 1 = m.size := by rw [← lenl, h1, List.length_cons]
  have hs := unqL_says h2
  rw [List.take_of_length_le (by omega)] at hs
  obtain ⟨q, q1, q2, q3, q4⟩ := quoteL_back hs
  have hul := unqL_len l
  have zu : (⟨(unqL l).toArray⟩ : ByteArray).size = (unqL l).length := by
    show (unqL l).toArray.size = _
    rw [List.size_toArray]
  have zq : (⟨(34 :: q).toArray⟩ : ByteArray).size = q.length + 1 := by
    show (34 :: q).toArray.size = _
    rw [List.size_toArray, List.length_cons]
  refine ⟨⟨(unqL l).toArray⟩, ⟨(34 :: q).toArray⟩, ?_, ?_, ?_⟩
  · unfold lex_Unquote.f
    rw [if_pos (by omega), LexW.unqV_eq h1, if_pos rfl, if_pos h2, if_pos (by omega)]
  · unfold lex_Quote.f
    rw [if_pos (by omega)]
    unfold LexW.qv
    show some (match quoteL (unqL l) with | some r => _ | none => _) = _
    rw [q1]
    rfl
  · unfold lex_Unquote.f
    rw [if_pos (by omega), LexW.unqV_eq (c := 34) (l := q) rfl, if_pos rfl, q2, if_pos rfl, if_pos rfl, q3]
end Go.Proofs.YtmikdofplolmjaaGreatDoor.Pure
