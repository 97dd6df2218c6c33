/- The limits of the cutting, as the statement LexLimits says; every input. -/
import Derived.Test.YtlcblkjgkaiadaaPureLexLib
import Derived.Test.YtlcblkjgkaiadaaPureLexCuts
import Derived.Test.YtlcblkjgkaiadaaX7
namespace Go.Proofs.Ytlcblkjgkaiadaa.Pure
open Go.RowKit Go.Proofs.Ytlcblkjgkaiadaa.X Go.Proofs.YtlcblkjgkaiadaaW.PrintWords Go.Proofs.YtlcblkjgkaiadaaW.PrintLast Go.Proofs.Ytlcblkjgkaiadaa.Lx
set_option linter.unusedVariables false
set_option linter.unusedSimpArgs false
/-- One more of those that are laid. -/
theorem set_next (a b : Int) : ∀ (i d : Nat), (List.replicate i a ++ List.replicate (d + 1) b).set i a = List.replicate (i + 1) a ++ List.replicate d b
  | 0, d => rfl
  | i + 1, d => by
    rw [List.replicate_succ, List.cons_append, List.set_cons_succ, set_next a b i d]
    rfl
theorem bytes_rep (n : Nat) (a : Int) (c : UInt8) (h : UInt8.ofNat a.toNat = c) : (strOfNums (List.replicate n a)).data.toList = List.replicate n c := by
  rw [strOfNums_data, List.map_replicate, h]
theorem lex_rep (n : Nat) (hn : n ≤ 65536) (a : Int) (c : UInt8) (h : UInt8.ofNat a.toNat = c) : lex_Lex.f (strOfNums (List.replicate n a)) = some ((lexN (n + 1) 0 0 (List.replicate n c)).1.map tokS, (((lexN (n + 1) 0 0 (List.replicate n c)).2.1 : Nat) : Int), (((lexN (n + 1) 0 0 (List.replicate n c)).2.2 : Nat) : Int)) := by
  have hz : (strOfNums (List.replicate n a)).size = n := by rw [strOfNums_size, List.length_replicate]
  rw [lex_eq _ (by omega), hz, bytes_rep n a c h]
theorem code_word (n : Nat) (h : 1 ≤ n) : (lexN (n + 1) 0 0 (List.replicate n 119)).2.1 = if 64 < n then 2 else 0 := by
  obtain ⟨m, rfl⟩ : ∃ m, n = m + 1 := ⟨n - 1, by omega⟩
  have hs : skipN false (List.replicate (m + 1) (119 : UInt8)) = 0 := by rw [List.replicate_succ, skipN, if_neg (by decide), if_neg (fun h => absurd h.1 (by decide))]
  have hl := lenN_all (p := wrdB) (c := 119) (by decide) (m + 1)
  have ho : oneN (List.replicate (m + 1) (119 : UInt8)) = if 64 < m + 1 then (0, 0, 2) else (1, m + 1, 0) := by
    rw [List.replicate_succ] at hl ⊢
    rw [oneN, if_pos (by decide), hl]
  by_cases hm : 64 < m + 1
  · rw [if_pos hm] at ho ⊢
    rw [lexN_bad (by rw [hs]; simp) (by decide) (by rw [hs, List.drop_zero, ho]; decide), hs, List.drop_zero, ho]
  · rw [if_neg hm] at ho ⊢
    rw [lexN_only (k := 1) (f := m) hs (by simp) (by rw [ho, List.length_replicate])]
theorem code_digit (n : Nat) (h : 1 ≤ n) : (lexN (n + 1) 0 0 (List.replicate n 49)).2.1 = if 20 < n then 2 else 0 := by
  obtain ⟨m, rfl⟩ : ∃ m, n = m + 1 := ⟨n - 1, by omega⟩
  have hs : skipN false (List.replicate (m + 1) (49 : UInt8)) = 0 := by rw [List.replicate_succ, skipN, if_neg (by decide), if_neg (fun h => absurd h.1 (by decide))]
  have hl := lenN_all (p := digB) (c := 49) (by decide) (m + 1)
  have hd : (List.replicate (m + 1) (49 : UInt8)).drop (m + 1) = [] := List.drop_eq_nil_of_le (by simp)
  have ho : oneN (List.replicate (m + 1) (49 : UInt8)) = if 20 < m + 1 then (0, 0, 2) else (2, m + 1, 0) := by
    rw [List.replicate_succ] at hl hd ⊢
    rw [oneN, if_neg (by decide), if_pos (by decide), hl, hd]
    rfl
  by_cases hm : 20 < m + 1
  · rw [if_pos hm] at ho ⊢
    rw [lexN_bad (by rw [hs]; simp) (by decide) (by rw [hs, List.drop_zero, ho]; decide), hs, List.drop_zero, ho]
  · rw [if_neg hm] at ho ⊢
    rw [lexN_only (k := 2) (f := m) hs (by simp) (by rw [ho, List.length_replicate])]
theorem quot_rep : ∀ n : Nat, quotN (List.replicate n 119 ++ [34]) = (n + 1, 0)
  | 0 => rfl
  | n + 1 => by
    have ih := quot_rep n
    obtain ⟨d, m, hd⟩ : ∃ d m, List.replicate n (119 : UInt8) ++ [34] = d :: m := by
      cases n with
      | zero => exact ⟨_, _, rfl⟩
      | succ n => exact ⟨_, _, rfl⟩
    rw [hd] at ih
    rw [List.replicate_succ, List.cons_append, hd]
    rw [quotN, if_neg (by decide), if_neg (by decide), if_neg (by decide), if_neg (by decide), ih]
theorem code_quote (n : Nat) : (lexN (n + 3) 0 0 (34 :: (List.replicate n 119 ++ [34]))).2.1 = if 254 < n then 2 else 0 := by
  have hs : skipN false (34 :: (List.replicate n (119 : UInt8) ++ [34])) = 0 := by rw [skipN, if_neg (by decide), if_neg (fun h => absurd h.1 (by decide))]
  have hl : (34 :: (List.replicate n (119 : UInt8) ++ [34])).length = n + 2 := by simp
  have ho : oneN (34 :: (List.replicate n (119 : UInt8) ++ [34])) = if 254 < n then (0, 0, 2) else (4, n + 2, 0) := by
    rw [oneN, if_neg (by decide), if_neg (by decide), if_pos rfl, quot_rep, if_pos rfl]
    by_cases hn : 254 < n
    · rw [if_pos hn, if_pos (show 256 < n + 1 + 1 by omega)]
    · rw [if_neg hn, if_neg (show ¬ 256 < n + 1 + 1 by omega)]
  by_cases hm : 254 < n
  · rw [if_pos hm] at ho ⊢
    rw [lexN_bad (by rw [hs, hl]; omega) (by decide) (by rw [hs, List.drop_zero, ho]; decide), hs, List.drop_zero, ho]
  · rw [if_neg hm] at ho ⊢
    rw [lexN_only (k := 4) (f := n + 1) hs (by rw [hl]; omega) (by rw [ho, hl])]
theorem code_is (c n m : Nat) (x : Int) (hx : x = (n : Int)) (hc : c = if m < n then 2 else 0) : (((c : Nat) : Int) == 2) = decide (x > (m : Int)) := by
  by_cases h : m < n
  · rw [if_pos h] at hc
    rw [hc, decide_eq_true (show x > (m : Int) by omega)]
    rfl
  · rw [if_neg h] at hc
    rw [hc, decide_eq_false (show ¬ x > (m : Int) by omega)]
    rfl
theorem limits_end (n : Nat) (h1 : 1 ≤ n) (h2 : n ≤ 300) (x z : Int) (hx : x = (n : Int)) (hz : z = (n : Int)) (i : Nat) (hi : n ≤ i) : Ev (fun k => caulkerlaw06_LexLimits.l1 k x (List.replicate n 119) (List.replicate n 49) z (i : Int)) true := by
  have s1 : (strOfNums (List.replicate n 119)).size = n := by rw [strOfNums_size, List.length_replicate]
  have s2 : ((⟨#[34]⟩ : ByteArray) ++ strOfNums (List.replicate n 119)).size = n + 1 := by
    rw [ByteArray.size_append, s1]
    show 1 + n = n + 1
    omega
  have s3 : (((⟨#[34]⟩ : ByteArray) ++ strOfNums (List.replicate n 119)) ++ (⟨#[34]⟩ : ByteArray)).size = n + 2 := by
    rw [ByteArray.size_append, s2]
    rfl
  have d3 : (((⟨#[34]⟩ : ByteArray) ++ strOfNums (List.replicate n 119)) ++ (⟨#[34]⟩ : ByteArray)).data.toList = 34 :: (List.replicate n 119 ++ [34]) := by
    rw [ByteArray.data_append, ByteArray.data_append, Array.toList_append, Array.toList_append, bytes_rep n 119 119 rfl]
    rfl
  have q := lex_ev (((⟨#[34]⟩ : ByteArray) ++ strOfNums (List.replicate n 119)) ++ (⟨#[34]⟩ : ByteArray)) (by omega)
  rw [s3, d3] at q
  refine Ev.step (fun k => by rw [caulkerlaw06_LexLimits.l1]) (Ev.neg (by omega) (Ev.bind (Ev.eq (lex_rep n (by omega) 119 119 rfl)) (Ev.bind (Ev.eq (lex_rep n (by omega) 49 49 rfl)) ?_)))
  have p1 : 1 + (strOfNums (List.replicate n 119)).size ≤ 9223372036854775807 := by omega
  have p2 : ((⟨#[34]⟩ : ByteArray) ++ strOfNums (List.replicate n 119)).size + 1 ≤ 9223372036854775807 := by omega
  refine Ev.pos p1 ?_
  refine Ev.pos p2 ?_
  refine Ev.bind q ?_
  have e1 := code_is _ n 64 x hx (code_word n h1)
  have e2 := code_is _ n 20 x hx (code_digit n h1)
  have e3 := code_is _ n 254 x hx (code_quote n)
  refine Ev.pos (beq_iff_eq.2 e1) (Ev.pos (beq_iff_eq.2 e2) (Ev.eq (congrArg some (beq_iff_eq.2 e3))))
theorem limits_two (n : Nat) (h1 : 1 ≤ n) (h2 : n ≤ 300) (x z : Int) (hx : x = (n : Int)) (hz : z = (n : Int)) : ∀ (d i : Nat), i + d = n →
    Ev (fun k => caulkerlaw06_LexLimits.l1 k x (List.replicate i 119 ++ List.replicate d 0) (List.replicate i 49 ++ List.replicate d 0) z (i : Int)) true := by
  intro d
  induction d with
  | zero =>
    intro i hi
    have : i = n := by omega
    subst this
    rw [List.replicate_zero, List.append_nil, List.append_nil]
    exact limits_end i h1 h2 x z hx hz i (Nat.le_refl _)
  | succ d ih =>
    intro i hi
    refine Ev.step (fun k => by rw [caulkerlaw06_LexLimits.l1]) (Ev.pos (by omega) (Ev.pos (by omega) (Ev.pos ?_ (Ev.pos ?_ ?_))))
    · rw [List.length_append, List.length_replicate, List.length_replicate]; omega
    · rw [List.length_append, List.length_replicate, List.length_replicate]; omega
    · rw [Int.toNat_natCast, set_next, set_next, wrap_succ (n := i + 1) (by omega) (by omega)]
      exact ih (i + 1) (by omega)
theorem limits_next (n : Nat) (h1 : 1 ≤ n) (h2 : n ≤ 300) (x : Int) (hx : x = (n : Int)) : Ev (fun k => caulkerlaw06_LexLimits.j2 k x) true := by
  refine Ev.step (fun k => by rw [caulkerlaw06_LexLimits.j2]) (Ev.pos (by omega) (Ev.pos (by omega) ?_))
  have := limits_two n h1 h2 x x hx hx n 0 (by omega)
  rw [show x.toNat = n by omega]
  exact this
theorem limits_first (m n : Nat) (hm : m ≤ 17000) (h1 : 1 ≤ n) (h2 : n ≤ 300) (x y z : Int) (hx : x = (m : Int)) (hy : y = (n : Int)) (hz : z = (m : Int)) : ∀ (d i : Nat), i + d = m →
    Ev (fun k => caulkerlaw06_LexLimits.l0 k x y (List.replicate i 59 ++ List.replicate d 0) z (i : Int)) true := by
  intro d
  induction d with
  | zero =>
    intro i hi
    have : i = m := by omega
    subst this
    rw [List.replicate_zero, List.append_nil]
    refine Ev.step (fun k => by rw [caulkerlaw06_LexLimits.l0]) (Ev.neg (by omega) (Ev.bind (Ev.eq (lex_rep i (by omega) 59 59 rfl)) ?_))
    refine Ev.ite (fun h => ?_) (fun h => ?_)
    · have e := lexN_many i (i + 1) 0 0 (by omega) (by omega) (by omega)
      rw [e]
      exact Ev.neg (by decide) (Ev.pos rfl (limits_next n h1 h2 y hy))
    · have e := lexN_signs i (i + 1) 0 0 (by omega) (by omega)
      rw [e.1]
      refine Ev.pos rfl (Ev.pos ?_ (limits_next n h1 h2 y hy))
      show ((((lexN (i + 1) 0 0 (List.replicate i 59)).1.map tokS).length : Nat) : Int) = _
      rw [List.length_map, e.2, wrap_id (by omega) (by omega)]
      omega
  | succ d ih =>
    intro i hi
    refine Ev.step (fun k => by rw [caulkerlaw06_LexLimits.l0]) (Ev.pos (by omega) (Ev.pos (by omega) (Ev.pos ?_ ?_)))
    · rw [List.length_append, List.length_replicate, List.length_replicate]; omega
    · rw [Int.toNat_natCast, set_next, wrap_succ (n := i + 1) (by omega) (by omega)]
      exact ih (i + 1) (by omega)
theorem LexLimits : caulkerlaw06_LexLimits.Pure := by
  intro x y wx wy
  apply Ev.rounds
  have hx := wf_range wx
  have hy := wf_range wy
  unfold caulkerlaw06_LexLimits.f
  have yes : Ev (fun k => caulkerlaw06_LexLimits.j0 k x y true) true := Ev.step (fun k => by rw [caulkerlaw06_LexLimits.j0]) (Ev.pos rfl (Ev.eq rfl))
  refine Ev.bind cuts_any (Ev.pos rfl (Ev.ite (fun _ => yes) (fun h0 => Ev.ite (fun _ => yes) (fun h1 => Ev.ite (fun _ => yes) (fun h2 => ?_)))))
  by_cases h3 : y > 300
  · rw [decide_eq_true h3]
    exact yes
  · rw [decide_eq_false h3]
    refine Ev.step (fun k => by rw [caulkerlaw06_LexLimits.j0]) (Ev.neg Bool.false_ne_true (Ev.pos (by omega) (Ev.pos (by omega) (Ev.bind (Ev.eq rfl) ?_))))
    have := limits_first x.toNat y.toNat (by omega) (by omega) (by omega) x y ((List.replicate x.toNat (0 : Int)).length : Int) (by omega) (by omega) (by rw [List.length_replicate]) x.toNat 0 (by omega)
    exact this
end Go.Proofs.Ytlcblkjgkaiadaa.Pure
