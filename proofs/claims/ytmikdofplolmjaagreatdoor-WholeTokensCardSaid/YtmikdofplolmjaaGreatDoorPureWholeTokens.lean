/- Each number that is cut is a whole number or too great for one, each float a double, each text says something that is quoted as a text that says it, each word is a name or one that is kept, as the statement WholeTokens says; every input. -/
import Derived.Test.YtmikdofplolmjaaGreatDoorTokN
import Derived.Test.YtmikdofplolmjaaGreatDoorTokT
import Derived.Test.YtmikdofplolmjaaGreatDoorX3
namespace Go.Proofs.YtmikdofplolmjaaGreatDoor.Pure
open Go.RowKit Go.Proofs.YtmikdofplolmjaaGreatDoor.X Go.Proofs.YtmikdofplolmjaaGreatDoorW.PrintWords Go.Proofs.YtmikdofplolmjaaGreatDoorW.PrintLast Go.Proofs.YtmikdofplolmjaaGreatDoor.Lx
set_option linter.unusedVariables false
set_option linter.unusedSimpArgs false
theorem say_eq (s : ByteArray) (hs : s.size ≤ 2000) (kk p q : Nat) (h1 : p ≤ q) (h2 : q ≤ s.size) : lex_Say.f s (kk : Int) (p : Int) (q : Int) = some (s.extract p q) := by
  unfold lex_Say.f span_Text.f span_Check.f
  rw [if_neg (by omega), if_neg (by omega), if_neg (by omega), if_neg (by omega), if_neg (by omega), Option.bind_some, if_pos rfl, if_pos (by omega), if_pos (by omega), if_pos (by omega), Option.bind_some, Int.toNat_natCast, Int.toNat_natCast]
theorem op_neg (m : Nat) (h : m < 18446744073709551616) : num_FloatNeg.f (m : Int) = some ((NuW.fneg m : Nat) : Int) := by
  unfold num_FloatNeg.f LexW.fNeg
  rw [if_pos ⟨by omega, by omega⟩, Int.toNat_natCast]
theorem op_toi (n : Nat) : num_ToInt.f (n : Int) = some (Fl.toI n) := by
  unfold num_ToInt.f LexW.fToInt
  rw [if_pos (by omega), Int.toNat_natCast]
theorem op_less (n m : Nat) : num_FloatCompare.f (⟨#[60]⟩ : ByteArray) (n : Int) (m : Int) = some (NuW.fLt n m, 0) := by
  unfold num_FloatCompare.f LexW.fCmp
  rw [if_pos ⟨by omega, by omega⟩, Int.toNat_natCast, Int.toNat_natCast]
  unfold num_holds.f
  rw [if_neg (by decide +kernel), if_neg (by decide +kernel), if_pos (by decide +kernel)]
theorem float_step (s : ByteArray) (L : List (S33)) (n i : Int) (x : Nat) (hx : x ≤ 9218868437227405312) (nxt : Ev (fun k => caulkertop_WholeTokens.l0 k s L n (wrap64 (i + 1))) true) : Ev (fun k => caulkertop_WholeTokens.j2 k s (x : Int) L n i false) true := by
  obtain ⟨hs, hn⟩ := small_pos hx
  obtain ⟨g1, g2⟩ := neg_neg x (by omega) hn
  refine Ev.step (fun k => by rw [caulkertop_WholeTokens.j2]) (Ev.neg Bool.false_ne_true (Ev.bind (Ev.eq (op_toi x)) ?_))
  have e : num_ToFloat.f (Fl.toI x) = some ((floatOfInt .f64 (Fl.toI x) : Nat) : Int) := rfl
  refine Ev.bind (Ev.eq e) (Ev.bind (Ev.eq (op_less x _)) ?_)
  rw [back_le x hs hn]
  refine Ev.neg Bool.false_ne_true (Ev.bind (Ev.eq (op_neg x (by omega))) (Ev.bind (Ev.eq (op_neg _ g2)) ?_))
  rw [g1]
  exact Ev.pos rfl nxt
theorem tok_loop (s : ByteArray) (hs : s.size ≤ 2000) (T : List (Nat × Nat × Nat)) (hT : T.length ≤ 2001) : ∀ (ts : List (Nat × Nat × Nat)) (i a : Nat), T.drop i = ts → a ≤ s.size → Ch a (s.data.toList.drop a) ts →
    Ev (fun k => caulkertop_WholeTokens.l0 k s (T.map tokS) ((T.map tokS).length : Int) (i : Int)) true
  | [], i, a, _, _, h => h.elim
  | [t], i, a, hd, ha, h => by
    have lm : (T.map tokS).length = T.length := List.length_map ..
    have hi : i < T.length := by
      rcases Nat.lt_or_ge i T.length with h' | h'
      · exact h'
      · rw [List.drop_eq_nil_of_le h'] at hd; cases hd
    have hlen : i + 1 = T.length := by
      have := congrArg List.length hd
      rw [List.length_drop, List.length_singleton] at this
      omega
    have ht : T[i] = t := by
      rw [List.drop_eq_getElem_cons hi] at hd
      injection hd
    obtain ⟨h1, h2⟩ := h
    have hl : (s.data.toList.drop a).length = s.size - a := by rw [List.length_drop, lenl]
    rw [hl] at h1 h2
    rw [show a + (s.size - a) = s.size by omega] at h1
    refine Ev.step (fun k => by rw [caulkertop_WholeTokens.l0]) (Ev.pos (by omega) (Ev.pos (by omega) (Ev.pos (by omega) ?_)))
    rw [rd32_map hi, ht, h1]
    have f0 : (tokS (0, s.size, s.size)).f1.f0 = ((s.size : Nat) : Int) := rfl
    have f1 : (tokS (0, s.size, s.size)).f1.f1 = ((s.size : Nat) : Int) := rfl
    have f2 : (tokS (0, s.size, s.size)).f0 = ((0 : Nat) : Int) := rfl
    rw [f0, f1, f2]
    refine Ev.bind (Ev.eq (say_eq s hs 0 s.size s.size (Nat.le_refl _) (Nat.le_refl _))) (Ev.neg (by omega) (Ev.neg (by omega) (Ev.neg (by omega) (Ev.neg (by omega) ?_))))
    rw [wrap_succ (n := i + 1) (by omega) (by omega)]
    refine Ev.step (fun k => by rw [caulkertop_WholeTokens.l0]) (Ev.neg (by omega) ?_)
    exact Ev.eq rfl
  | t :: u :: ts, i, a, hd, ha, h => by
    have lm : (T.map tokS).length = T.length := List.length_map ..
    have hi : i < T.length := by
      rcases Nat.lt_or_ge i T.length with h' | h'
      · exact h'
      · rw [List.drop_eq_nil_of_le h'] at hd; cases hd
    have hlen : i + 1 < T.length := by
      have := congrArg List.length hd
      rw [List.length_drop, List.length_cons, List.length_cons] at this
      omega
    have ht : T[i] = t ∧ T.drop (i + 1) = u :: ts := by
      rw [List.drop_eq_getElem_cons hi] at hd
      injection hd with h1 h2
      exact ⟨h1, h2⟩
    obtain ⟨h1, h2, h3, h4⟩ := h
    have hl : (s.data.toList.drop a).length = s.size - a := by rw [List.length_drop, lenl]
    rw [hl] at h1
    obtain ⟨K, hK⟩ : ∃ K, skipN false (s.data.toList.drop a) = K := ⟨_, rfl⟩
    rw [hK] at h1 h2 h3 h4
    rw [List.drop_drop] at h2 h3 h4
    have hle := oneN_le (s.data.toList.drop (a + K))
    have hpos := oneN_pos _ h2
    have hkind := oneN_kind _ h2
    have htake := oneN_take _ h2
    rw [List.length_drop, lenl] at hle
    obtain ⟨kk, len, hone⟩ : ∃ kk len, oneN (s.data.toList.drop (a + K)) = (kk, len, 0) := ⟨_, _, by rw [← h2]⟩
    rw [hone] at h3 h4 hle hpos hkind htake
    simp only at h3 h4 hle hpos hkind htake
    rw [List.drop_drop] at h4
    have ih := tok_loop s hs T hT (u :: ts) (i + 1) (a + K + len) ht.2 (by omega) h4
    have nxt : Ev (fun k => caulkertop_WholeTokens.l0 k s (T.map tokS) ((T.map tokS).length : Int) (wrap64 ((i : Int) + 1))) true := by
      rw [wrap_succ (n := i + 1) (by omega) (by omega)]
      exact ih
    refine Ev.step (fun k => by rw [caulkertop_WholeTokens.l0]) (Ev.pos (by omega) (Ev.pos (by omega) (Ev.pos (by omega) ?_)))
    rw [rd32_map hi, ht.1, h3]
    have f0 : (tokS (kk, a + K, a + K + len)).f1.f0 = ((a + K : Nat) : Int) := rfl
    have f1 : (tokS (kk, a + K, a + K + len)).f1.f1 = ((a + K + len : Nat) : Int) := rfl
    have f2 : (tokS (kk, a + K, a + K + len)).f0 = ((kk : Nat) : Int) := rfl
    rw [f0, f1, f2]
    refine Ev.bind (Ev.eq (say_eq s hs kk (a + K) (a + K + len) (by omega) (by omega))) ?_
    have hx : (s.extract (a + K) (a + K + len)).data.toList = (s.data.toList.drop (a + K)).take len := by
      rw [extn, show a + K + len - (a + K) = len by omega]
    have hz := sizen hx
    rw [List.length_take, List.length_drop, lenl] at hz
    rw [← hx] at htake
    generalize s.extract (a + K) (a + K + len) = m at htake hz
    have hzl : m.size = len := by omega
    rw [← hzl] at htake
    have hm : m.size ≤ 2000 := by omega
    clear hx hz h3 h4 hone hle hK
    rcases (show kk = 2 ∨ kk = 3 ∨ kk = 4 ∨ kk = 1 ∨ kk = 5 by omega) with rfl | rfl | rfl | rfl | rfl
    · obtain ⟨i1, i2⟩ := int_token m htake
      have hI : num_Int.f m = some ((NuW.intV m).1, (NuW.intV m).2) := by
        show (if m.size ≤ 281474976710656 then some ((NuW.intV m).1, (NuW.intV m).2) else none) = _
        rw [if_pos (by omega)]
      generalize (NuW.intV m).1 = n at hI i1
      generalize (NuW.intV m).2 = e at hI i2
      refine Ev.pos rfl (Ev.bind (Ev.eq hI) (Ev.neg (by omega) ?_))
      rcases i2 with rfl | rfl | ⟨rfl, b1, b2⟩
      · exact Ev.pos rfl nxt
      · exact Ev.neg (by (try dsimp only); decide) (Ev.pos rfl nxt)
      · exact Ev.neg (by (try dsimp only); decide) (Ev.neg (by (try dsimp only); decide) (Ev.pos rfl (Ev.pos (by omega) (Ev.pos b1 (Ev.pos (by omega) nxt)))))
    · obtain ⟨i1, i2⟩ := float_token m htake
      have hF : num_Float.f m = some ((((NuW.flV m).1 : Nat) : Int), (NuW.flV m).2) := by
        show (if m.size ≤ 4611686018427387904 then some ((((NuW.flV m).1 : Nat) : Int), (NuW.flV m).2) else none) = _
        rw [if_pos (by omega)]
      generalize (NuW.flV m).1 = x at hF i1
      generalize (NuW.flV m).2 = e at hF i2
      have go := float_step s (T.map tokS) ((T.map tokS).length : Int) (i : Int) x i1 nxt
      refine Ev.neg (by (try dsimp only); decide) (Ev.pos rfl (Ev.bind (Ev.eq hF) ?_))
      rcases i2 with rfl | rfl | ⟨rfl, b1⟩
      · exact Ev.pos rfl go
      · exact Ev.neg (by (try dsimp only); decide) (Ev.pos rfl go)
      · refine Ev.neg (by (try dsimp only); decide) (Ev.neg (by (try dsimp only); decide) (Ev.pos rfl (Ev.pos (by omega) ?_)))
        rw [b1]
        exact go
    · obtain ⟨u, q, t1, t2, t3⟩ := text_token m htake
      refine Ev.neg (by (try dsimp only); decide) (Ev.neg (by (try dsimp only); decide) (Ev.pos rfl (Ev.bind (Ev.eq t1) (Ev.bind (Ev.eq t2) (Ev.bind (Ev.eq t3) (Ev.pos (by dsimp only; rw [wrap_id (i := 0 + 0) (by decide) (by decide), wrap_id (by decide) (by decide)]; decide) (Ev.pos rfl nxt)))))))
    · obtain ⟨w1, w2⟩ := word_token m htake
      refine Ev.neg (by (try dsimp only); decide) (Ev.neg (by (try dsimp only); decide) (Ev.neg (by (try dsimp only); decide) (Ev.pos rfl (Ev.bind w2 (Ev.bind (Ev.eq w1) (Ev.neg ?_ nxt))))))
      cases keptB m.data.toList <;> decide
    · exact Ev.neg (by (try dsimp only); decide) (Ev.neg (by (try dsimp only); decide) (Ev.neg (by (try dsimp only); decide) (Ev.neg (by (try dsimp only); decide) nxt)))
theorem twelve : num_Int.f (⟨#[49, 50]⟩ : ByteArray) = some (12, 0) := by decide +kernel
theorem tokens (s : ByteArray) : ∃ k, caulkertop_WholeTokens.f k s = some true := by
  apply Ev.rounds
  unfold caulkertop_WholeTokens.f
  refine Ev.bind (Ev.eq twelve) (Ev.pos rfl ?_)
  refine Ev.step (fun k => by rw [caulkertop_WholeTokens.j0]) (Ev.neg (by decide) (Ev.ite (fun _ => Ev.eq rfl) (fun h => Ev.bind (lex_ev s (by omega)) ?_)))
  refine Ev.ite (fun h0 => ?_) (fun h0 => ?_)
  · have h0' : (lexN (s.size + 1) 0 0 s.data.toList).2.1 = 0 := by
      have : (((lexN (s.size + 1) 0 0 s.data.toList).2.1 : Nat) : Int) = 0 := h0
      omega
    have hc := lexN_ch (s.size + 1) 0 0 s.data.toList (by rw [lenl]; omega) h0'
    have hl := hc.length
    rw [lenl] at hl
    exact tok_loop s (by omega) _ (by omega) _ 0 0 rfl (Nat.zero_le _) (by rw [List.drop_zero]; exact hc)
  · have h0' : (lexN (s.size + 1) 0 0 s.data.toList).2.1 ≠ 0 := fun e => h0 (by show (((lexN (s.size + 1) 0 0 s.data.toList).2.1 : Nat) : Int) = 0; omega)
    refine Ev.cast (Ev.eq rfl) ?_
    show ((((lexN (s.size + 1) 0 0 s.data.toList).1.map tokS).length : Int) == 0) = true
    rw [lexN_none _ _ _ _ h0']
    rfl
theorem tokens_any (a0 : ByteArray) (W : World) (hg : LexW.GV W) : Calls Tryz.prog 3 #[.string a0] W fun e W' => e = .returned (.bool true) ∧ Below W.heap.size W W' := by
  obtain ⟨k, h⟩ := tokens a0
  exact caulkertop_WholeTokens.calls k a0 true W h hg
end Go.Proofs.YtmikdofplolmjaaGreatDoor.Pure
