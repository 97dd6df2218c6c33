import Derived.Test.YtbnopcndjdpnkaaDoorX4
import Derived.Test.YtbnopcndjdpnkaaDoorPureNumInts
namespace Go.Proofs.YtbnopcndjdpnkaaDoor.Pure
open Go.RowKit Go.Proofs.YtbnopcndjdpnkaaDoor.X Go.Proofs.YtbnopcndjdpnkaaDoorW.PrintWords Go.Proofs.YtbnopcndjdpnkaaDoorW.PrintLast Go.Proofs.YtbnopcndjdpnkaaDoor.NuW
theorem pw_eq (d : Nat) (h : d < 23) : floatOfInt .f64 ((10 ^ d : Nat) : Int) = pw d := by
  have : ∀ k : Fin 23, (floatOfInt .f64 ((10 ^ k.val : Nat) : Int) == pw k.val) = true := by decide +kernel
  exact beq_iff_eq.1 (this ⟨d, h⟩)
theorem rdig_f (k : Nat) (t : ByteArray) (h : t.size < k) (ht : t.size ≤ 4611686018427387904) : caulkerref05_digits.f k t = some (digB t) := by
  unfold caulkerref05_digits.f
  have := rdigits_l0 t ht k 0 (by omega) (by omega) (fun j hj => by omega)
  exact this
theorem times10 (T : Nat) (h : T ≤ 10000000000000000) : wrap64 ((T : Int) * 10) = ((T * 10 : Nat) : Int) := by
  rw [wrap_id (by omega) (by omega)]
  omega
theorem ref_l1 (s : ByteArray) (p : Nat) (hF : FD s p) : ∀ (k i : Nat), s.size < k + i → i ≤ s.size → caulkerref05_Float.l1 k s (p : Int) ((vD s p i : Nat) : Int) ((10 ^ (i - 1 - p) : Nat) : Int) (i : Int) = some (((fdV s p : Nat) : Int), 0)
  | 0, i, h, hi => by omega
  | k + 1, i, h, hi => by
    have h3 := hF.h3
    have hv := vD_lt hF i hi
    have h10 : (10 : Nat) ^ i ≤ 10 ^ 16 := Nat.pow_le_pow_right (by decide) (by omega)
    have h11 : (10 : Nat) ^ (i - 1 - p) ≤ 10 ^ 16 := Nat.pow_le_pow_right (by decide) (by omega)
    have e16 : (10 : Nat) ^ 16 = 10000000000000000 := by decide
    rw [caulkerref05_Float.l1]
    by_cases c : i < s.size
    · rw [if_pos (by omega), wrap_id (i := (i : Int) + 1) (by omega) (by omega), show (i : Int) + 1 = ((i + 1 : Nat) : Int) from rfl]
      by_cases e : i = p
      · rw [if_pos (by omega)]
        have := ref_l1 s p hF k (i + 1) (by omega) (by omega)
        rw [vD, if_pos e, show i + 1 - 1 - p = i - 1 - p by omega] at this
        exact this
      · rw [if_neg (by omega), if_pos (by omega)]
        obtain ⟨d1, d2⟩ := hF.dig i c e
        have hn : wrap64 ((wrap64 (10 * ((vD s p i : Nat) : Int))) + (((bt s (i : Int)) - 48) % 256)) = ((vD s p (i + 1) : Nat) : Int) := by
          rw [vD, if_neg e, wrap_id (i := 10 * ((vD s p i : Nat) : Int)) (by omega) (by omega), wrap_id (by omega) (by omega)]
          omega
        rw [hn]
        have ih := ref_l1 s p hF k (i + 1) (by omega) (by omega)
        by_cases g : (i : Int) > (p : Int)
        · rw [if_pos g]
          have ht : wrap64 (((10 ^ (i - 1 - p) : Nat) : Int) * 10) = ((10 ^ (i + 1 - 1 - p) : Nat) : Int) := by
            rw [show i + 1 - 1 - p = (i - 1 - p) + 1 by omega, Nat.pow_succ]
            exact times10 _ (by omega)
          rw [ht]
          exact ih
        · rw [if_neg g]
          rw [show i + 1 - 1 - p = i - 1 - p by omega] at ih
          exact ih
    · rw [if_neg (by omega)]
      obtain rfl : i = s.size := by omega
      unfold caulkerref05_Float.q
      rw [pw_eq _ (by omega), fdV_some hF]
      rfl
theorem ref_end (s : ByteArray) (hs : s.size ≤ 100) (A : Int) (hA : (A = -1 ∧ ∀ t : Nat, t < s.size → bt s (t : Int) ≠ 46) ∨ ∃ p : Nat, A = (p : Int) ∧ p < s.size ∧ bt s (p : Int) = 46 ∧ ∀ t : Nat, t < p → bt s (t : Int) ≠ 46) : caulkerref05_Float.l0 (300 + 1) s A (-1) = some ((((flV s).1 : Nat) : Int), (flV s).2) := by
  rw [caulkerref05_Float.l0, if_neg (by decide)]
  rcases hA with ⟨rfl, hno⟩ | ⟨p, rfl, hp, hdot, hno⟩
  · rw [if_pos (by decide)]
    unfold flV
    rw [dot_none hno]
    rfl
  · rw [if_neg (by omega), if_pos (by omega), if_pos (by omega), wrap_id (i := (p : Int) + 1) (by omega) (by omega), if_pos (by omega), if_pos (by omega), Int.toNat_natCast, show ((p : Int) + 1).toNat = p + 1 by omega]
    have s1 := extr_size s 0 p
    have s2 := extr_size s (p + 1) s.size
    rw [rdig_f 300 _ (by omega) (by omega), rdig_f 300 _ (by omega) (by omega), Option.bind_some, Option.bind_some]
    have j1t : caulkerref05_Float.j1 300 s (p : Int) true = some (0, 5) := rfl
    have hdt := dot_some hp hdot hno
    cases ha : digB (s.extract 0 p) with
    | false =>
      rw [if_neg (by decide), j1t]
      unfold flV
      rw [hdt]
      dsimp only
      rw [ha]
      rfl
    | true =>
      rw [if_pos rfl]
      cases hb : digB (s.extract (p + 1) s.size) with
      | false =>
        rw [if_neg (by decide), j1t]
        unfold flV
        rw [hdt]
        dsimp only
        rw [ha, hb]
        rfl
      | true =>
        rw [if_pos rfl]
        have key : ∀ c : Bool, c = (decide (1 < p) && (bt s 0 == 48)) → caulkerref05_Float.j1 300 s (p : Int) c = some ((((flV s).1 : Nat) : Int), (flV s).2) := by
          intro c hc
          cases c with
          | true =>
            rw [j1t]
            unfold flV
            rw [hdt]
            dsimp only
            rw [ha, hb, ← hc]
            rfl
          | false =>
            rw [caulkerref05_Float.j1, if_neg (by decide), wrap_id (by omega) (by omega)]
            by_cases g : (s.size : Int) - 1 > 15
            · rw [if_pos g, flV_long hdt ha hb hc.symm (by omega)]
              rfl
            · rw [if_neg g, flV_ok hdt ha hb hc.symm (by omega)]
              have hF := fd_of hp hdot ha hb hc.symm (by omega)
              have := ref_l1 s p hF 299 0 (by omega) (by omega)
              rw [show 0 - 1 - p = 0 by omega] at this
              exact this
        by_cases g : (p : Int) > 1
        · rw [if_pos g, if_pos (by omega)]
          exact key _ (by rw [decide_eq_true (show 1 < p by omega), Bool.true_and])
        · rw [if_neg g]
          exact key _ (by rw [decide_eq_false (show ¬ 1 < p by omega), Bool.false_and])
theorem ref_l0 (s : ByteArray) (hs : s.size ≤ 100) : ∀ (j : Nat), j ≤ s.size → ∀ A : Int, ((A = -1 ∧ ∀ t : Nat, j ≤ t → t < s.size → bt s (t : Int) ≠ 46) ∨ ∃ p : Nat, A = (p : Int) ∧ j ≤ p ∧ p < s.size ∧ bt s (p : Int) = 46 ∧ ∀ t : Nat, j ≤ t → t < p → bt s (t : Int) ≠ 46) → caulkerref05_Float.l0 (300 + 1 + j) s A ((j : Int) - 1) = some ((((flV s).1 : Nat) : Int), (flV s).2)
  | 0, hj, A, hA => by
    refine ref_end s hs A ?_
    rcases hA with ⟨h1, h2⟩ | ⟨p, h1, _, h2, h3, h4⟩
    · exact Or.inl ⟨h1, fun t ht => h2 t (Nat.zero_le _) ht⟩
    · exact Or.inr ⟨p, h1, h2, h3, fun t ht => h4 t (Nat.zero_le _) ht⟩
  | j + 1, hj, A, hA => by
    rw [show 300 + 1 + (j + 1) = (300 + 1 + j) + 1 by omega, caulkerref05_Float.l0, show ((j + 1 : Nat) : Int) - 1 = (j : Int) by omega, if_pos (by omega), if_pos (by omega), if_pos (by omega), wrap_id (i := (j : Int) - 1) (by omega) (by omega)]
    by_cases c : bt s (j : Int) = 46
    · rw [if_pos c]
      exact ref_l0 s hs j (by omega) _ (Or.inr ⟨j, rfl, Nat.le_refl _, by omega, c, fun t h1 h2 => by omega⟩)
    · rw [if_neg c]
      refine ref_l0 s hs j (by omega) A ?_
      rcases hA with ⟨h1, h2⟩ | ⟨p, h1, h0, h2, h3, h4⟩
      · refine Or.inl ⟨h1, fun t ht ht2 => ?_⟩
        by_cases e : t = j
        · subst e; exact c
        · exact h2 t (by omega) ht2
      · refine Or.inr ⟨p, h1, by omega, h2, h3, fun t ht ht2 => ?_⟩
        by_cases e : t = j
        · subst e; exact c
        · exact h4 t (by omega) ht2
theorem NumFloats0 (a0 : ByteArray) : ∃ k, caulkerlaw05_NumFloats.f k a0 = some true := by
  by_cases h : (a0.size : Int) > 100
  · refine ⟨0 + 1, ?_⟩
    unfold caulkerlaw05_NumFloats.f
    rw [NumP.reckons, Option.bind_some, if_pos rfl, if_pos h]
  refine ⟨300 + a0.size + 1, ?_⟩
  unfold caulkerlaw05_NumFloats.f
  rw [NumP.reckons, Option.bind_some, if_pos rfl, if_neg h]
  have h0 : num_Float.f a0 = some ((((flV a0).1 : Nat) : Int), (flV a0).2) := by
    show (if a0.size ≤ 4611686018427387904 then some ((((flV a0).1 : Nat) : Int), (flV a0).2) else none) = _
    rw [if_pos (by omega)]
  have h1 : caulkerref05_Float.f (300 + a0.size + 1) a0 = some ((((flV a0).1 : Nat) : Int), (flV a0).2) := by
    unfold caulkerref05_Float.f
    rw [wrap_id (by omega) (by omega), show 300 + a0.size + 1 = 300 + 1 + a0.size by omega]
    exact ref_l0 a0 (by omega) a0.size (Nat.le_refl _) (-1) (Or.inl ⟨rfl, fun t h1 h2 => by omega⟩)
  rw [h0, h1, Option.bind_some, Option.bind_some, if_pos rfl]
  simp
theorem floats_any (a0 : ByteArray) (W : World) (hg : LexW.GV W) : Calls Tryd.prog 4 #[.string a0] W fun e W' => e = .returned (.bool true) ∧ Below W.heap.size W W' := by
  obtain ⟨k, h⟩ := NumFloats0 a0
  exact caulkerlaw05_NumFloats.calls k a0 true W h hg
end Go.Proofs.YtbnopcndjdpnkaaDoor.Pure
