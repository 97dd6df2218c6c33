/- Which texts may be names, as the statement LexNames says; every input. -/
import Derived.Test.YtlcblkjgkaiadaaPureLexLib
import Derived.Test.YtlcblkjgkaiadaaPureLexCuts
import Derived.Test.YtlcblkjgkaiadaaX6
namespace Go.Proofs.Ytlcblkjgkaiadaa.Pure
open Go.RowKit Go.Proofs.Ytlcblkjgkaiadaa.X Go.Proofs.YtlcblkjgkaiadaaW.PrintWords Go.Proofs.YtlcblkjgkaiadaaW.PrintLast Go.Proofs.Ytlcblkjgkaiadaa.Lx
set_option linter.unusedVariables false
set_option linter.unusedSimpArgs false
theorem letter_all : ∀ n : Fin 256, caulkerref06_letter.f (n.val : Int) = some (letB (UInt8.ofNat n.val)) ∧ lex_letter.f (n.val : Int) = some (letB (UInt8.ofNat n.val)) ∧ caulkerref06_digit.f (n.val : Int) = some (digB (UInt8.ofNat n.val)) ∧ lex_digit.f (n.val : Int) = some (digB (UInt8.ofNat n.val)) := by decide +kernel
theorem letter_at (c : UInt8) : caulkerref06_letter.f (c.toNat : Int) = some (letB c) ∧ lex_letter.f (c.toNat : Int) = some (letB c) ∧ caulkerref06_digit.f (c.toNat : Int) = some (digB c) ∧ lex_digit.f (c.toNat : Int) = some (digB c) := by
  have h := letter_all ⟨c.toNat, c.toNat_lt⟩
  rw [UInt8.ofNat_toNat] at h
  exact h
/-- May the bytes be a name's; the first is the name's first. -/
def nmB : Bool → List UInt8 → Bool
  | _, [] => true
  | b, c :: m => (letB c || (!b && digB c)) && nmB false m
theorem word_any (s : ByteArray) (hs : s.size ≤ 200) : ∀ (d i : Nat), s.size - i = d → i ≤ s.size → ∃ r : Int, Ev (fun k => caulkerref06_Word.l0 k s 0 (i : Int)) r ∧ (r == (s.size : Int)) = nmB (i == 0) (s.data.toList.drop i) := by
  intro d
  induction d with
  | zero =>
    intro i h1 h2
    have e : i = s.size := by omega
    rw [drope (by omega)]
    refine ⟨(i : Int), Ev.step (fun k => by rw [caulkerref06_Word.l0]) (Ev.neg (by rw [wrap_id (by omega) (by omega)]; omega) (Ev.eq rfl)), ?_⟩
    rw [nmB, e]
    exact beq_iff_eq.2 rfl
  | succ d ih =>
    intro i h1 h2
    have hi : i < s.size := by omega
    have w0 : wrap64 (0 + (i : Int)) = (i : Int) := by rw [wrap_id (by omega) (by omega)]; omega
    obtain ⟨l1, l2, l3, l4⟩ := letter_at s[i]
    obtain ⟨r, ih1, ih2⟩ := ih (i + 1) (by omega) (by omega)
    have hne : ((i : Int) == (s.size : Int)) = false := beq_eq_false_iff_ne.2 (by omega)
    rw [dropn hi, nmB]
    rw [show (i + 1 == 0) = false from rfl] at ih2
    have goStep : ∀ r, (∀ {b : Bool}, Ev (fun k => caulkerref06_Word.l0 k s 0 (i : Int)) r → b = (r == (s.size : Int)) → ∃ r : Int, Ev (fun k => caulkerref06_Word.l0 k s 0 (i : Int)) r ∧ (r == (s.size : Int)) = b) := fun r b h1 h2 => ⟨r, h1, h2.symm⟩
    have nx : Ev (fun k => caulkerref06_Word.l0 k s 0 (wrap64 ((i : Int) + 1))) r := by rw [wrap_succ (n := i + 1) (by omega) (by omega)]; exact ih1
    have pre : ∀ {r : Int}, Ev (fun k => if letB s[i] = true then (caulkerref06_Word.l0 k s 0 (wrap64 ((i : Int) + 1))) else (if (i : Int) > 0 then (if digB s[i] = true then (caulkerref06_Word.l0 k s 0 (wrap64 ((i : Int) + 1))) else (some (i : Int))) else (some (i : Int)))) r → Ev (fun k => caulkerref06_Word.l0 k s 0 (i : Int)) r := fun h => by
      refine Ev.step (fun k => by rw [caulkerref06_Word.l0]) ?_
      rw [w0, btn hi, l1, l3]
      exact Ev.pos (by omega) (Ev.pos (by omega) h)
    by_cases hl : letB s[i] = true
    · refine goStep r (pre (Ev.pos hl nx)) ?_
      rw [hl, ih2]
      rfl
    · have hl' : letB s[i] = false := by simpa using hl
      by_cases h0 : i = 0
      · refine goStep (i : Int) (pre (Ev.neg hl (Ev.neg (by omega) (Ev.eq rfl)))) ?_
        rw [hl', hne, show (i == 0) = true from beq_iff_eq.2 h0]
        rfl
      · have hz : (i == 0) = false := beq_eq_false_iff_ne.2 h0
        by_cases hd : digB s[i] = true
        · refine goStep r (pre (Ev.neg hl (Ev.pos (by omega) (Ev.pos hd nx)))) ?_
          rw [hl', hz, hd, ih2]
          rfl
        · have hd' : digB s[i] = false := by simpa using hd
          refine goStep (i : Int) (pre (Ev.neg hl (Ev.pos (by omega) (Ev.neg hd (Ev.eq rfl))))) ?_
          rw [hl', hz, hd', hne]
          rfl
theorem kept_lex (s : ByteArray) (hs : s.size ≤ 200) : lex_Kept.f s = some (keptB s.data.toList) := by
  unfold lex_Kept.f
  rw [if_pos (by omega)]
theorem name_any (s : ByteArray) (hs : s.size ≤ 200) (n : Int) (hn : n = (s.size : Int)) : ∀ (d i : Nat), s.size - i = d → i ≤ s.size → Ev (fun k => lex_Name.l0 k s n (i : Int)) (nmB (i == 0) (s.data.toList.drop i) && (!s.data.toList.isEmpty && (decide (s.size ≤ 64) && !keptB s.data.toList))) := by
  intro d
  induction d with
  | zero =>
    intro i h1 h2
    rw [drope (by omega), nmB, Bool.true_and]
    refine Ev.step (fun k => by rw [lex_Name.l0]) (Ev.neg (by omega) ?_)
    rw [Lib.toList_data]
    refine Ev.ite (fun h => ?_) (fun h => ?_)
    · rw [h]
      exact Ev.eq rfl
    · have : s.data.toList.isEmpty = false := by simpa using h
      rw [this, Bool.not_false, Bool.true_and]
      refine Ev.ite (fun h => ?_) (fun h => ?_)
      · rw [kept_lex s hs, decide_eq_true (show s.size ≤ 64 by omega), Bool.true_and]
        exact Ev.eq rfl
      · rw [decide_eq_false (show ¬ s.size ≤ 64 by omega)]
        exact Ev.eq rfl
  | succ d ih =>
    intro i h1 h2
    have hi : i < s.size := by omega
    obtain ⟨l1, l2, l3, l4⟩ := letter_at s[i]
    have ih1 := ih (i + 1) (by omega) (by omega)
    rw [show (i + 1 == 0) = false from rfl] at ih1
    rw [dropn hi, nmB]
    obtain ⟨E, hE⟩ : ∃ E, (!s.data.toList.isEmpty && (decide (s.size ≤ 64) && !keptB s.data.toList)) = E := ⟨_, rfl⟩
    rw [hE] at ih1 ⊢
    obtain ⟨M, hM⟩ : ∃ M, nmB false (s.data.toList.drop (i + 1)) = M := ⟨_, rfl⟩
    rw [hM] at ih1 ⊢
    have nx : Ev (fun k => lex_Name.l0 k s n (wrap64 ((i : Int) + 1))) (M && E) := by rw [wrap_succ (n := i + 1) (by omega) (by omega)]; exact ih1
    refine Ev.step (fun k => by rw [lex_Name.l0]) (Ev.pos (by omega) (Ev.pos (by omega) (Ev.pos (by omega) ?_)))
    rw [btn hi, l2, l4]
    show Ev (fun k => if letB s[i] = true then _ else (if (i : Int) = 0 then _ else (if digB s[i] = true then _ else _))) _
    refine Ev.ite (fun hl => ?_) (fun hl => ?_)
    · rw [hl]
      exact nx
    · have hl' : letB s[i] = false := by simpa using hl
      rw [hl']
      refine Ev.ite (fun h0 => ?_) (fun h0 => ?_)
      · rw [show (i == 0) = true from beq_iff_eq.2 (by omega)]
        exact Ev.eq rfl
      · rw [show (i == 0) = false from beq_eq_false_iff_ne.2 (by omega)]
        refine Ev.ite (fun hd => ?_) (fun hd => ?_)
        · rw [hd]
          exact nx
        · have hd' : digB s[i] = false := by simpa using hd
          rw [hd']
          exact Ev.eq rfl
theorem kept_loop (s : ByteArray) (L : List ByteArray) (hL : L.length ≤ 1000) : ∀ (d i : Nat), L.length - i = d → Ev (fun k => caulkerref06_Kept.l0 k s L (i : Int)) ((L.drop i).any fun b => b.data.toList == s.data.toList) := by
  intro d
  induction d with
  | zero =>
    intro i h1
    rw [List.drop_eq_nil_of_le (by omega)]
    refine Ev.step (fun k => by rw [caulkerref06_Kept.l0]) ?_
    refine Ev.neg (by omega) ?_
    exact Ev.eq rfl
  | succ d ih =>
    intro i h1
    have hi : i < L.length := by omega
    rw [List.drop_eq_getElem_cons hi, List.any_cons]
    refine Ev.step (fun k => by rw [caulkerref06_Kept.l0]) (Ev.pos (by omega) (Ev.pos (by omega) ?_))
    have er : rdOf ByteArray.empty L (i : Int) = L[i] := by
      unfold rdOf
      rw [Int.toNat_natCast, List.getD_eq_getElem?_getD, List.getElem?_eq_getElem hi]
      rfl
    rw [er, Lib.toList_data, Lib.toList_data]
    refine Ev.ite (fun h => ?_) (fun h => ?_)
    · rw [show (L[i].data.toList == s.data.toList) = true from beq_iff_eq.2 h]
      exact Ev.eq rfl
    · rw [show (L[i].data.toList == s.data.toList) = false from beq_eq_false_iff_ne.2 h, Bool.false_or, wrap_succ (n := i + 1) (by omega) (by omega)]
      exact ih (i + 1) (by omega)
theorem kept_words (s : List UInt8) : ∀ l : List (List UInt8), ((l.map fun x => (⟨x.toArray⟩ : ByteArray)).any fun b => b.data.toList == s) = l.contains s
  | [] => rfl
  | x :: l => by
    rw [List.map_cons, List.any_cons, kept_words s l, List.contains_cons]
    congr 1
    exact Bool.eq_iff_iff.2 ⟨fun h => beq_iff_eq.2 (beq_iff_eq.1 h).symm, fun h => beq_iff_eq.2 (beq_iff_eq.1 h).symm⟩
theorem kept_ref (s : ByteArray) : Ev (fun k => caulkerref06_Kept.f k s) (keptB s.data.toList) := by
  have h := kept_loop s (keptL.map fun x => (⟨x.toArray⟩ : ByteArray)) (by decide +kernel) _ 0 rfl
  rw [List.drop_zero, kept_words] at h
  unfold caulkerref06_Kept.f
  exact h
theorem names_end (s : ByteArray) (hs : s.size ≤ 200) (b : Bool) (hb : b = (!s.data.toList.isEmpty && nmB true s.data.toList)) : Ev (fun k => caulkerlaw06_LexNames.j0 k s b) true := by
  have h1 := name_any s hs _ rfl _ 0 rfl (Nat.zero_le _)
  rw [List.drop_zero, show (0 == 0) = true from rfl] at h1
  have h2 : Ev (fun k => lex_Name.f k s) (nmB true s.data.toList && (!s.data.toList.isEmpty && (decide (s.size ≤ 64) && !keptB s.data.toList))) := by
    unfold lex_Name.f
    exact h1
  refine Ev.step (fun k => by rw [caulkerlaw06_LexNames.j0]) (Ev.bind (Ev.eq (kept_lex s hs)) (Ev.bind (kept_ref s) ?_))
  refine Ev.neg (by cases keptB s.data.toList <;> decide) ?_
  refine Ev.bind h2 ?_
  refine Ev.ite (fun h => ?_) (fun h => ?_)
  · rw [h] at hb
    have hb2 := hb.symm
    rw [Bool.and_eq_true] at hb2
    refine Ev.ite (fun h64 => ?_) (fun h64 => ?_)
    · refine Ev.bind (kept_ref s) (Ev.eq (congrArg some ?_))
      rw [hb2.1, hb2.2, decide_eq_true (show s.size ≤ 64 by omega)]
      exact beq_iff_eq.2 rfl
    · refine Ev.eq (congrArg some ?_)
      rw [decide_eq_false (show ¬ s.size ≤ 64 by omega), Bool.false_and, Bool.and_false, Bool.and_false]
      rfl
  · have hb' : b = false := by simpa using h
    rw [hb'] at hb
    refine Ev.eq (congrArg some ?_)
    rw [← Bool.and_assoc, Bool.and_comm (nmB true _), ← hb]
    rfl
theorem LexNames : caulkerlaw06_LexNames.Pure := by
  intro s _
  apply Ev.rounds
  unfold caulkerlaw06_LexNames.f
  refine Ev.bind cuts_any (Ev.pos rfl (Ev.ite (fun _ => Ev.eq rfl) (fun h => ?_)))
  have hs : s.size ≤ 200 := by omega
  rw [Lib.toList_data]
  refine Ev.ite (fun h => ?_) (fun h => ?_)
  · exact names_end s hs false (by rw [h]; rfl)
  · obtain ⟨r, h1, h2⟩ := word_any s hs _ 0 rfl (Nat.zero_le _)
    rw [List.drop_zero, show (0 == 0) = true from rfl] at h2
    have h3 : Ev (fun k => caulkerref06_Word.f k s 0) r := by
      unfold caulkerref06_Word.f
      exact h1
    refine Ev.bind h3 (names_end s hs _ ?_)
    rw [h2]
    have : s.data.toList.isEmpty = false := by simpa using h
    rw [this]
    rfl
end Go.Proofs.Ytlcblkjgkaiadaa.Pure
