/- Nothing is lost: tokens stand in order, and between them there are blanks and comments alone; each token, cut by itself, is that token, as the statement LexWhole says; every input. -/
import Derived.Test.YtlcblkjgkaiadaaPureBetween
import Derived.Test.YtlcblkjgkaiadaaPureLexCuts
import Derived.Test.YtlcblkjgkaiadaaX3
namespace Go.Proofs.Ytlcblkjgkaiadaa.Pure
open Go.RowKit Go.Proofs.Ytlcblkjgkaiadaa.X Go.Proofs.YtlcblkjgkaiadaaW.PrintWords Go.Proofs.YtlcblkjgkaiadaaW.PrintLast Go.Proofs.Ytlcblkjgkaiadaa.Lx
set_option linter.unusedVariables false
set_option linter.unusedSimpArgs false
theorem whole_loop (s : ByteArray) (hs : s.size ≤ 3000) (T : List (Nat × Nat × Nat)) (hT : T.length ≤ 3001) : ∀ (ts : List (Nat × Nat × Nat)) (i a : Nat), T.drop i = ts → a ≤ s.size → Ch a (s.data.toList.drop a) ts →
    Ev (fun k => caulkerlaw06_LexWhole.l0 k s (T.map tokS) (a : Int) (T.map tokS) ((T.map tokS).length : Int) (i : Int)) true
  | [], i, a, _, _, h => h.elim
  | [t], i, a, hd, ha, h => by
    have lm : (T.map tokS).length = T.length := List.length_map ..
    have hi : i < T.length := by
      rcases Nat.lt_or_ge i T.length with h' | h'
      · exact h'
      · rw [List.drop_eq_nil_of_le h'] at hd; cases hd
    have hlen : i + 1 = T.length := by
      have := congrArg List.length hd
      rw [List.length_drop, List.length_singleton] at this
      omega
    have ht : T[i] = t := by
      rw [List.drop_eq_getElem_cons hi] at hd
      injection hd
    obtain ⟨h1, h2⟩ := h
    have hl : (s.data.toList.drop a).length = s.size - a := by rw [List.length_drop, lenl]
    rw [hl] at h1 h2
    rw [show a + (s.size - a) = s.size by omega] at h1
    have hb := between_cut s (by omega) a _ ha h2
    rw [show a + (s.size - a) = s.size by omega] at hb
    refine Ev.step (fun k => by rw [caulkerlaw06_LexWhole.l0]) (Ev.pos (by omega) (Ev.pos (by omega) (Ev.pos (by omega) ?_)))
    rw [rd32_map hi, ht, h1]
    show Ev (fun k => if (s.size : Int) < (a : Int) then _ else _) true
    refine Ev.neg (by omega) (Ev.neg (Int.lt_irrefl _) (Ev.neg (Int.lt_irrefl _) (Ev.pos (by show (0 : Int) ≤ (s.size : Int); omega) (Ev.pos (Int.le_refl _) (Ev.bind hb (Ev.pos rfl ?_))))))
    have e : (((tokS (0, s.size, s.size)).f0 == 0) != ((i : Int) == wrap64 (((T.map tokS).length : Int) - 1))) = false := by
      rw [lm, wrap_id (by omega) (by omega), show ((i : Int) == (T.length : Int) - 1) = true from beq_iff_eq.2 (by omega)]
      rfl
    rw [e]
    refine Ev.step (fun k => by rw [caulkerlaw06_LexWhole.j1]) (Ev.neg Bool.false_ne_true (Ev.pos (show (tokS (0, s.size, s.size)).f0 = 0 from rfl) ?_))
    rw [wrap_succ (n := i + 1) (by omega) (by omega)]
    have f1 : (tokS (0, s.size, s.size)).f1.f1 = (s.size : Int) := rfl
    rw [f1]
    refine Ev.step (fun k => by rw [caulkerlaw06_LexWhole.l0]) (Ev.neg (by omega) ?_)
    exact Ev.eq (congrArg some (beq_iff_eq.2 rfl))
  | t :: u :: ts, i, a, hd, ha, h => by
    have lm : (T.map tokS).length = T.length := List.length_map ..
    have hi : i < T.length := by
      rcases Nat.lt_or_ge i T.length with h' | h'
      · exact h'
      · rw [List.drop_eq_nil_of_le h'] at hd; cases hd
    have hlen : i + 1 < T.length := by
      have := congrArg List.length hd
      rw [List.length_drop, List.length_cons, List.length_cons] at this
      omega
    have ht : T[i] = t ∧ T.drop (i + 1) = u :: ts := by
      rw [List.drop_eq_getElem_cons hi] at hd
      injection hd with h1 h2
      exact ⟨h1, h2⟩
    obtain ⟨h1, h2, h3, h4⟩ := h
    have hl : (s.data.toList.drop a).length = s.size - a := by rw [List.length_drop, lenl]
    rw [hl] at h1
    have hb := between_cut s (by omega) a _ ha rfl
    have hsk := skipN_drop false (s.data.toList.drop a)
    obtain ⟨K, hK⟩ : ∃ K, skipN false (s.data.toList.drop a) = K := ⟨_, rfl⟩
    rw [hK] at h1 h2 h3 h4 hb hsk
    rw [List.drop_drop] at h2 h3 h4 hsk
    have hle := oneN_le (s.data.toList.drop (a + K))
    have hpos := oneN_pos _ h2
    have hkind := oneN_kind _ h2
    have hal := lexN_alone hsk h2
    rw [List.length_drop, lenl] at hle
    obtain ⟨kk, len, hone⟩ : ∃ kk len, oneN (s.data.toList.drop (a + K)) = (kk, len, 0) := ⟨_, _, by rw [← h2]⟩
    rw [hone] at h3 h4 hle hpos hkind hal
    simp only at h3 h4 hle hpos hkind hal
    rw [List.drop_drop] at h4
    have ih := whole_loop s hs T hT (u :: ts) (i + 1) (a + K + len) ht.2 (by omega) h4
    refine Ev.step (fun k => by rw [caulkerlaw06_LexWhole.l0]) (Ev.pos (by omega) (Ev.pos (by omega) (Ev.pos (by omega) ?_)))
    rw [rd32_map hi, ht.1, h3]
    have f0 : (tokS (kk, a + K, a + K + len)).f1.f0 = ((a + K : Nat) : Int) := rfl
    have f1 : (tokS (kk, a + K, a + K + len)).f1.f1 = ((a + K + len : Nat) : Int) := rfl
    have f2 : (tokS (kk, a + K, a + K + len)).f0 = ((kk : Nat) : Int) := rfl
    rw [f0, f1, f2]
    refine Ev.neg (by omega) (Ev.neg (by omega) (Ev.neg (by omega) (Ev.pos (by omega) (Ev.pos (by omega) (Ev.bind hb (Ev.pos rfl ?_))))))
    have e : ((((kk : Nat) : Int) == 0) != ((i : Int) == wrap64 (((T.map tokS).length : Int) - 1))) = false := by
      rw [lm, wrap_id (by omega) (by omega), show ((i : Int) == (T.length : Int) - 1) = false from beq_eq_false_iff_ne.2 (by omega), show (((kk : Nat) : Int) == 0) = false from beq_eq_false_iff_ne.2 (by omega)]
      rfl
    rw [e]
    refine Ev.step (fun k => by rw [caulkerlaw06_LexWhole.j1]) (Ev.neg Bool.false_ne_true (Ev.neg (by omega) (Ev.pos (by omega) (Ev.pos (by omega) (Ev.pos (by omega) ?_)))))
    have hx : (s.extract ((a + K : Nat) : Int).toNat ((a + K + len : Nat) : Int).toNat).data.toList = (s.data.toList.drop (a + K)).take len := by
      rw [Int.toNat_natCast, Int.toNat_natCast, extn, show a + K + len - (a + K) = len by omega]
    have hz := sizen hx
    rw [List.length_take, List.length_drop, lenl] at hz
    have hlx := lex_ev (s.extract ((a + K : Nat) : Int).toNat ((a + K + len : Nat) : Int).toNat) (by omega)
    rw [hx, lexN_fuel _ (len + 2) 0 0 _ (by rw [List.length_take, List.length_drop, lenl]; omega) (by rw [List.length_take, List.length_drop, lenl]; omega), hal] at hlx
    refine Ev.bind hlx (Ev.pos rfl (Ev.pos rfl (Ev.pos (show (0 : Int) < ((2 : Nat) : Int) by decide) (Ev.pos rfl (Ev.pos ?_ (Ev.neg (by omega) ?_))))))
    · show ((len : Nat) : Int) = _
      rw [wrap_id (by omega) (by omega)]
      omega
    · rw [wrap_succ (n := i + 1) (by omega) (by omega)]
      exact ih
theorem LexWhole : caulkerlaw06_LexWhole.Pure := by
  intro s _
  apply Ev.rounds
  unfold caulkerlaw06_LexWhole.f
  refine Ev.bind cuts_any (Ev.pos rfl (Ev.ite (fun _ => Ev.eq rfl) (fun h => Ev.bind (lex_ev s (by omega)) ?_)))
  refine Ev.ite (fun h0 => ?_) (fun h0 => ?_)
  · have h0' : (lexN (s.size + 1) 0 0 s.data.toList).2.1 = 0 := by
      have : (((lexN (s.size + 1) 0 0 s.data.toList).2.1 : Nat) : Int) = 0 := h0
      omega
    have hc := lexN_ch (s.size + 1) 0 0 s.data.toList (by rw [lenl]; omega) h0'
    have hl := hc.length
    rw [lenl] at hl
    exact whole_loop s (by omega) _ (by omega) _ 0 0 rfl (Nat.zero_le _) (by rw [List.drop_zero]; exact hc)
  · have h0' : (lexN (s.size + 1) 0 0 s.data.toList).2.1 ≠ 0 := fun e => h0 (by show (((lexN (s.size + 1) 0 0 s.data.toList).2.1 : Nat) : Int) = 0; omega)
    refine Ev.cast (Ev.eq rfl) ?_
    show ((((lexN (s.size + 1) 0 0 s.data.toList).1.map tokS).length : Int) == 0) = true
    rw [lexN_none _ _ _ _ h0']
    rfl
end Go.Proofs.Ytlcblkjgkaiadaa.Pure
