import Derived.Test.YtbnopcndjdpnkaaDoorX5
import Derived.Test.YtbnopcndjdpnkaaDoorNumP0
import Derived.Test.YtbnopcndjdpnkaaDoorPureNumTurnsC
namespace Go.Proofs.YtbnopcndjdpnkaaDoor.Pure
open Go.RowKit Go.Proofs.YtbnopcndjdpnkaaDoor.X Go.Proofs.YtbnopcndjdpnkaaDoorW.PrintWords Go.Proofs.YtbnopcndjdpnkaaDoorW.PrintLast Go.Proofs.YtbnopcndjdpnkaaDoor.Fl Ieee
theorem back (a : Int) (h1 : -9007199254740992 ≤ a) (h2 : a ≤ 9007199254740992) : toI (floatOfInt .f64 a) = a := by
  by_cases h0 : a = 0
  · subst h0; decide +kernel
  rw [foi, near_int _ _ (by omega) (by omega)]
  obtain ⟨m, hm⟩ : ∃ m, a.natAbs = m := ⟨_, rfl⟩
  rw [hm]
  have hm0 : m ≠ 0 := by omega
  have hb : m.log2 ≤ 53 := by have := (Nat.log2_lt hm0 (k := 54)).2 (by omega); omega
  have b1 : 2 ^ m.log2 ≤ m := Nat.log2_self_le hm0
  have b2 : m < 2 ^ (m.log2 + 1) := (Nat.log2_lt hm0).1 (Nat.lt_succ_self _)
  generalize m.log2 = b at *
  obtain ⟨k1, _⟩ := kept_le m b b1 b2 (by omega)
  have key2 : kept m b < 9007199254740992 ∧ ∀ r, r / 4503599627370496 = 1023 + b → r % 4503599627370496 = kept m b - 4503599627370496 → wv r = m := by
    by_cases c : b ≤ 52
    · have e2 : 2 ^ (b + 1) * 2 ^ (52 - b) = 9007199254740992 := by rw [← Nat.pow_add, show b + 1 + (52 - b) = 53 by omega]
      have hk : kept m b = m * 2 ^ (52 - b) := by unfold kept; rw [if_pos c]
      have hlt : kept m b < 9007199254740992 := by
        rw [hk, ← e2]
        exact Nat.mul_lt_mul_of_pos_right b2 (Nat.two_pow_pos _)
      refine ⟨hlt, fun r g1 g2 => ?_⟩
      by_cases c2 : b = 52
      · subst c2
        rw [wv_hi r _ _ g1 g2 (by omega), hk]
        simp at hk ⊢
        omega
      · rw [wv_lo r _ _ g1 g2 (by omega) (by omega), show 4503599627370496 + (kept m b - 4503599627370496) = kept m b by omega, hk, show 1075 - (1023 + b) = 52 - b by omega]
        exact Nat.mul_div_cancel _ (Nat.two_pow_pos _)
    · obtain rfl : b = 53 := by omega
      have e53 : (2 : Nat) ^ 53 = 9007199254740992 := by decide
      obtain rfl : m = 9007199254740992 := by omega
      have hk : kept 9007199254740992 53 = 4503599627370496 := by decide
      rw [hk]
      refine ⟨by decide, fun r g1 g2 => ?_⟩
      rw [wv_hi r _ _ g1 g2 (by omega)]
  obtain ⟨k2, hw⟩ := key2
  generalize kept m b = K at *
  have fin : ∀ w : Nat, w = (if decide (a < 0) = true then 9223372036854775808 else 0) + ((1022 + b) * 4503599627370496 + K) → toI w = a := by
    intro w hwd
    have hr : rung w = (1022 + b) * 4503599627370496 + K := by
      unfold rung; rw [hwd]; split <;> omega
    have hs : sgn w = decide (a < 0) := by
      unfold sgn
      rw [Bool.eq_iff_iff, beq_iff_eq, hwd]
      by_cases ha : a < 0
      · simp only [decide_eq_true ha, if_pos rfl]; simp; omega
      · simp only [decide_eq_false ha]; simp; omega
    have hv := hw (rung w) (by rw [hr]; omega) (by rw [hr]; omega)
    unfold toI
    rw [show isN w = false by unfold isN; rw [hr]; exact decide_eq_false (by omega), if_neg (by decide), key_c63, key_m63]
    unfold key
    rw [hs, hr]
    have hin : ∀ x : Int, x = (if decide (a < 0) = true then -(((1022 + b) * 4503599627370496 + K : Nat) : Int) else (((1022 + b) * 4503599627370496 + K : Nat) : Int)) → (if 4890909195324358656 ≤ x then (9223372036854775807 : Int) else if x < -4890909195324358656 then -9223372036854775808 else whole w) = whole w := by
      intro x hx
      have : -4890909195324358656 < x ∧ x < 4890909195324358656 := by
        rw [hx]; split <;> omega
      rw [if_neg (by omega), if_neg (by omega)]
    rw [hin _ rfl, whole_wv, hv, hs]
    unfold sv
    by_cases ha : a < 0
    · rw [decide_eq_true ha, if_pos rfl]; omega
    · rw [decide_eq_false ha, if_neg (by decide)]; omega
  exact fin _ rfl
theorem turn_j1 (k n : Nat) (hn : n < 18446744073709551616) (c : Bool) (hc : c = false) : caulkerlaw05_NumTurns.j1 (k + 1) (n : Int) c = some true := by
  subst hc
  have h1 : num_Norm.f (n : Int) = some ((norm n : Nat) : Int) := by
    show (if 0 ≤ (n : Int) then some ((norm (n : Int).toNat : Nat) : Int) else none) = _
    rw [if_pos (by omega), Int.toNat_natCast]
  rw [caulkerlaw05_NumTurns.j1, if_neg (by decide), h1, none_eq n hn, Option.bind_some, Option.bind_some, Option.bind_some, Option.bind_some]
  unfold norm nanB
  cases hN : isN n with
  | true =>
    simp only [if_pos trivial]
    by_cases c : ((9221120237041090561 : Nat) : Int) = (n : Int)
    · simp [c]
      omega
    · simp [c]
  | false =>
    simp
theorem NumTurns0 (n : Nat) (a : Int) (hn : n < 18446744073709551616) (ha : -9223372036854775808 ≤ a ∧ a ≤ 9223372036854775807) : ∃ k, caulkerlaw05_NumTurns.f k (n : Int) a = some true := by
  refine ⟨100 + 1, ?_⟩
  unfold caulkerlaw05_NumTurns.f
  have h1 : num_ToInt.f (n : Int) = some (toI n) := by
    show (if 0 ≤ (n : Int) then some (toI (n : Int).toNat) else none) = _
    rw [if_pos (by omega), Int.toNat_natCast]
  have h2 : num_ToFloat.f a = some ((floatOfInt .f64 a : Nat) : Int) := rfl
  have h3 : num_ToInt.f ((floatOfInt .f64 a : Nat) : Int) = some (toI (floatOfInt .f64 a)) := by
    show (if 0 ≤ ((floatOfInt .f64 a : Nat) : Int) then some (toI ((floatOfInt .f64 a : Nat) : Int).toNat) else none) = _
    rw [if_pos (by omega), Int.toNat_natCast]
  rw [NumP.reckons, Option.bind_some, if_pos rfl, h1, h2, toint_eq 100 n hn, tof_eq a ha, Option.bind_some, Option.bind_some, Option.bind_some, if_pos rfl, Option.bind_some, show (((floatOfInt .f64 a : Nat) : Int) != ((floatOfInt .f64 a : Nat) : Int)) = false from bne_self_eq_false _, caulkerlaw05_NumTurns.j0, if_neg (by decide), h3]
  by_cases c1 : a ≥ -9007199254740992
  · rw [if_pos c1]
    by_cases c2 : a ≤ 9007199254740992
    · rw [if_pos c2, Option.bind_some, back a (by omega) c2]
      exact turn_j1 99 n hn _ (bne_self_eq_false _)
    · rw [if_neg c2]; exact turn_j1 99 n hn _ rfl
  · rw [if_neg c1]; exact turn_j1 99 n hn _ rfl
theorem turns_any (a0 a1 : Int) (w0 : (Lit.int .u64 a0).wf = true) (w1 : (Lit.int .i64 a1).wf = true) (W : World) (hg : LexW.GV W) : Calls Tryd.prog 5 #[.int .u64 a0, .int .i64 a1] W fun e W' => e = .returned (.bool true) ∧ Below W.heap.size W W' := by
  have g0 : 0 ≤ a0 ∧ a0 ≤ 18446744073709551615 := by simpa [Lit.wf, IntKind.min, IntKind.max, IntKind.signed, IntKind.bits] using w0
  have g1 : -9223372036854775808 ≤ a1 ∧ a1 ≤ 9223372036854775807 := by simpa [Lit.wf, IntKind.min, IntKind.max, IntKind.signed, IntKind.bits] using w1
  obtain ⟨n, rfl⟩ : ∃ n : Nat, a0 = (n : Int) := ⟨a0.toNat, by omega⟩
  obtain ⟨k, h⟩ := NumTurns0 n a1 (by omega) g1
  exact caulkerlaw05_NumTurns.calls k _ a1 true W h hg
end Go.Proofs.YtbnopcndjdpnkaaDoor.Pure
