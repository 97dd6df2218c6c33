/- What a text in quotes says is quoted as a text that says it, as the statement LexQuotes says; every input. -/
import Derived.Test.YtlcblkjgkaiadaaPureLexLib
import Derived.Test.YtlcblkjgkaiadaaPureLexCuts
import Derived.Test.YtlcblkjgkaiadaaLexTheory3
import Derived.Test.YtlcblkjgkaiadaaX5
namespace Go.Proofs.Ytlcblkjgkaiadaa.Pure
open Go.RowKit Go.Proofs.Ytlcblkjgkaiadaa.X Go.Proofs.YtlcblkjgkaiadaaW.PrintWords Go.Proofs.YtlcblkjgkaiadaaW.PrintLast Go.Proofs.Ytlcblkjgkaiadaa.Lx
set_option linter.unusedVariables false
set_option linter.unusedSimpArgs false
theorem byte_eq {s : ByteArray} {l : List UInt8} (h : s.data.toList = l) : (⟨l.toArray⟩ : ByteArray) = s := by
  subst h
  cases s
  simp
theorem quotes_end (s : ByteArray) (hs : s.size ≤ 500) (n : Int) (i : Nat) (hn : n = (s.size : Int)) (hi : s.size ≤ i) : Ev (fun k => caulkerlaw06_LexQuotes.l0 k s (s.data.toList.all sayB) n (i : Int)) true := by
  have hq : lex_Quote.f s = some (LexW.qv [34] s.data.toList) := by
    unfold lex_Quote.f
    rw [if_pos (by omega)]
  refine Ev.step (fun k => by rw [caulkerlaw06_LexQuotes.l0]) (Ev.neg (by omega) (Ev.bind (Ev.eq hq) ?_))
  refine Ev.ite (fun h => ?_) (fun h => ?_)
  · have hall : ∀ c ∈ s.data.toList, sayB c = true := List.all_eq_true.1 h
    obtain ⟨q, h1, h2, h3, h4⟩ := quoteL_back hall
    have e : LexW.qv [34] s.data.toList = (⟨(34 :: q).toArray⟩, 0) := by
      unfold LexW.qv
      rw [h1]
      rfl
    rw [e]
    have z : (⟨(34 :: q).toArray⟩ : ByteArray).size ≤ 1000000000 := by
      show (34 :: q).toArray.size ≤ _
      rw [List.size_toArray, List.length_cons]
      have := lenl s
      omega
    have hu : lex_Unquote.f (⟨(34 :: q).toArray⟩ : ByteArray) = some (s, 0) := by
      unfold lex_Unquote.f
      rw [if_pos z, LexW.unqV_eq (c := 34) (l := q) rfl, if_pos rfl, h2, if_pos rfl, if_pos rfl, h3, byte_eq rfl]
    exact Ev.bind (Ev.eq hu) (Ev.pos rfl (Ev.pos rfl (Ev.eq (congrArg some (beq_iff_eq.2 rfl)))))
  · have hex : ∃ c ∈ s.data.toList, sayB c = false := by
      rw [List.all_eq_true] at h
      by_cases hx : ∃ c ∈ s.data.toList, sayB c = false
      · exact hx
      · exact absurd (fun c hc => by
          cases e : sayB c
          · exact absurd ⟨c, hc, e⟩ hx
          · rfl) h
    have e : LexW.qv [34] s.data.toList = (⟨#[]⟩, 60) := by
      unfold LexW.qv
      rw [quoteL_none hex]
    rw [e]
    exact Ev.pos rfl (Ev.eq (congrArg some (by decide +kernel)))
theorem quotes_loop (s : ByteArray) (hs : s.size ≤ 500) (n : Int) (hn : n = (s.size : Int)) : ∀ (d i : Nat) (b : Bool), s.size - i = d → i ≤ s.size → (b && (s.data.toList.drop i).all sayB) = s.data.toList.all sayB → Ev (fun k => caulkerlaw06_LexQuotes.l0 k s b n (i : Int)) true := by
  intro d
  induction d with
  | zero =>
    intro i b h1 h2 h3
    rw [drope (by omega)] at h3
    have : b = s.data.toList.all sayB := by rw [← h3]; simp
    rw [this]
    exact quotes_end s hs n i hn (by omega)
  | succ d ih =>
    intro i b h1 h2 h3
    have hi : i < s.size := by omega
    rw [dropn hi, List.all_cons] at h3
    have nxt : ∀ b' : Bool, (b && sayB s[i]) = b' → Ev (fun k => caulkerlaw06_LexQuotes.l0 k s b' n (wrap64 ((i : Int) + 1))) true := fun b' hb => by
      rw [wrap_succ (n := i + 1) (by omega) (by omega)]
      exact ih (i + 1) b' (by omega) (by omega) (by rw [← hb, Bool.and_assoc]; exact h3)
    refine Ev.step (fun k => by rw [caulkerlaw06_LexQuotes.l0]) (Ev.pos (by omega) ?_)
    cases b with
    | false => exact Ev.neg Bool.false_ne_true (nxt false rfl)
    | true =>
      have hb : bt s (i : Int) = ((s[i].toNat : Nat) : Int) := btn hi
      have ten : bt s (i : Int) = 10 ↔ s[i] = 10 := bt_is hi 10 10
      have nine : (bt s (i : Int) == 9) = (s[i] == 9) := by
        rw [Bool.eq_iff_iff, beq_iff_eq, beq_iff_eq]
        exact bt_is hi 9 9
      have yes : sayB s[i] = true → Ev (fun k => caulkerlaw06_LexQuotes.l0 k s true n (wrap64 ((i : Int) + 1))) true := fun h => nxt true (by rw [h]; rfl)
      have in10 : s[i] = 10 → sayB s[i] = true := fun h => by rw [h]; decide
      have out : ¬ (32 ≤ s[i] ∧ s[i] ≤ 126) → Ev (fun k => if bt s (i : Int) = 10 then caulkerlaw06_LexQuotes.l0 k s true n (wrap64 ((i : Int) + 1)) else caulkerlaw06_LexQuotes.l0 k s (bt s (i : Int) == 9) n (wrap64 ((i : Int) + 1))) true := fun ho => by
        refine Ev.ite (fun h => yes (in10 (ten.1 h))) (fun h => nxt _ ?_)
        rw [nine, Bool.true_and, sayB]
        have e1 : (s[i] == 10) = false := beq_eq_false_iff_ne.2 (fun e => h (ten.2 e))
        have e2 : (decide (32 ≤ s[i]) && decide (s[i] ≤ 126)) = false := by
          rw [Bool.and_eq_false_iff, decide_eq_false_iff_not, decide_eq_false_iff_not]
          by_cases h32 : 32 ≤ s[i]
          · exact Or.inr (fun h => ho ⟨h32, h⟩)
          · exact Or.inl h32
        rw [e1, e2]
        rfl
      refine Ev.pos rfl (Ev.pos (by omega) (Ev.pos (by omega) (Ev.ite (fun h32 => Ev.ite (fun h126 => yes ?_) (fun h126 => out ?_)) (fun h32 => out ?_))))
      · have a1 : 32 ≤ s[i] := UInt8.le_iff_toNat_le.2 (by have : (32 : UInt8).toNat = 32 := rfl; omega)
        have a2 : s[i] ≤ 126 := UInt8.le_iff_toNat_le.2 (by have : (126 : UInt8).toNat = 126 := rfl; omega)
        rw [sayB, decide_eq_true a1, decide_eq_true a2]
        rfl
      · intro ⟨_, h⟩
        have := UInt8.le_iff_toNat_le.1 h
        have e : (126 : UInt8).toNat = 126 := rfl
        omega
      · intro ⟨h, _⟩
        have := UInt8.le_iff_toNat_le.1 h
        have e : (32 : UInt8).toNat = 32 := rfl
        omega
theorem LexQuotes : caulkerlaw06_LexQuotes.Pure := by
  intro s _
  apply Ev.rounds
  unfold caulkerlaw06_LexQuotes.f
  refine Ev.bind cuts_any (Ev.pos rfl (Ev.ite (fun _ => Ev.eq rfl) (fun h => ?_)))
  exact quotes_loop s (by omega) _ rfl _ 0 true rfl (Nat.zero_le _) (by rw [List.drop_zero]; rfl)
end Go.Proofs.Ytlcblkjgkaiadaa.Pure
