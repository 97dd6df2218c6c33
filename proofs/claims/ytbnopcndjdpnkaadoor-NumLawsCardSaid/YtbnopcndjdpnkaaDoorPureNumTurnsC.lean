import Derived.Test.YtbnopcndjdpnkaaDoorX18
import Derived.Test.YtbnopcndjdpnkaaDoorPureNumTurnsB
import Derived.Laws.FloatArith
namespace Go.Proofs.YtbnopcndjdpnkaaDoor.Pure
open Go.RowKit Go.Proofs.YtbnopcndjdpnkaaDoor.X Go.Proofs.YtbnopcndjdpnkaaDoorW.PrintWords Go.Proofs.YtbnopcndjdpnkaaDoorW.PrintLast Go.Proofs.YtbnopcndjdpnkaaDoor.Fl Ieee
theorem fin18 (S : Int) (hS : S = 0 ∨ S = 9223372036854775808) (b K : Nat) (hb : b ≤ 63) (h1 : 4503599627370496 ≤ K) (h2 : K ≤ 9007199254740992) (x : Int) (hx : x = (K : Int)) : IntKind.u64.wrap ((IntKind.u64.wrap (S + (IntKind.u64.wrap ((IntKind.u64.wrap (wrap64 (1023 + (b : Int)))) * 4503599627370496)))) + (IntKind.u64.wrap (x - 4503599627370496))) = S + (((1022 + b) * 4503599627370496 + K : Nat) : Int) := by
  subst hx
  rw [wrap_id2 (by omega) (by omega), u64w (1023 + (b : Int)) (by omega) (by omega)]
  simp only [uw7]
  rcases hS with rfl | rfl <;> omega
theorem shr_b (m b i : Nat) (h1 : 2 ^ b ≤ m) (h2 : m < 2 ^ (b + 1)) (hi : i ≤ b) (hb : b ≤ 63) : shr .u64 (m : Int) (i : Int) > 1 ↔ i < b := by
  rw [shr_eq m i (by omega)]
  constructor
  · intro h
    rcases Nat.lt_or_ge i b with g | g
    · exact g
    · obtain rfl : i = b := by omega
      have : m / 2 ^ i < 2 := (Nat.div_lt_iff_lt_mul (Nat.two_pow_pos _)).2 (by rw [Nat.mul_comm, ← Nat.pow_succ]; exact h2)
      omega
  · intro h
    have h3 : 2 ^ (i + 1) ≤ 2 ^ b := Nat.pow_le_pow_right (by decide) h
    have : 2 ≤ m / 2 ^ i := (Nat.le_div_iff_mul_le (Nat.two_pow_pos _)).2 (by rw [Nat.mul_comm, ← Nat.pow_succ]; omega)
    omega
theorem tof_l0 (S : Int) (hS : S = 0 ∨ S = 9223372036854775808) (m b : Nat) (h1 : 2 ^ b ≤ m) (h2 : m < 2 ^ (b + 1)) (hb : b ≤ 63) (hm : m < 18446744073709551616) : ∀ (k i : Nat), b < k + i → i ≤ b → caulkerref05_ToFloat.l0 k S (m : Int) (i : Int) = some (S + (((1022 + b) * 4503599627370496 + kept m b : Nat) : Int))
  | 0, i, h, hi => by omega
  | k + 1, i, h, hi => by
    obtain ⟨k1, k2⟩ := kept_le m b h1 h2 hb
    rw [caulkerref05_ToFloat.l0, u64w (i : Int) (by omega) (by omega), if_pos (by omega)]
    by_cases c : i < b
    · rw [if_pos ((shr_b m b i h1 h2 hi hb).2 c), wrap_id2 (by omega) (by omega), show (i : Int) + 1 = ((i + 1 : Nat) : Int) from rfl]
      exact tof_l0 S hS m b h1 h2 hb hm k (i + 1) (by omega) (by omega)
    · rw [if_neg (fun g => c ((shr_b m b i h1 h2 hi hb).1 g))]
      obtain rfl : i = b := by omega
      by_cases c2 : (i : Int) ≤ 52
      · rw [if_pos c2, show IntKind.u64.wrap (wrap64 (52 - (i : Int))) = ((52 - i : Nat) : Int) by rw [wrap_id2 (by omega) (by omega), u64w _ (by omega) (by omega)]; omega, if_pos (by omega)]
        congr 1
        apply fin18 S hS i _ hb k1 k2
        unfold kept at k2 ⊢
        rw [if_pos (by omega)] at k2 ⊢
        exact shl_eq _ _ (by omega) (by omega)
      · rw [if_neg c2, show IntKind.u64.wrap (wrap64 ((i : Int) - 52)) = ((i - 52 : Nat) : Int) by rw [wrap_id2 (by omega) (by omega), u64w _ (by omega) (by omega)]; omega, if_pos (by omega)]
        obtain ⟨s, rfl⟩ : ∃ s, i = s + 1 + 52 := ⟨i - 53, by omega⟩
        rw [show s + 1 + 52 - 52 = s + 1 by omega]
        rw [show IntKind.u64.wrap (((s + 1 : Nat) : Int) - 1) = (s : Int) by rw [u64w _ (by omega) (by omega)]; omega, if_pos (by omega)]
        rw [shr_eq m (s + 1) (by omega)]
        have d1 : m / 2 ^ (s + 1) * 2 ^ (s + 1) ≤ m := Nat.div_mul_le_self m _
        have d2 : m % 2 ^ (s + 1) = m - m / 2 ^ (s + 1) * 2 ^ (s + 1) := by
          have := Nat.div_add_mod m (2 ^ (s + 1))
          rw [Nat.mul_comm] at this
          omega
        have p1 : (2 : Nat) ^ s ≤ 2 ^ 11 := Nat.pow_le_pow_right (by decide) (by omega)
        rw [shl_eq (m / 2 ^ (s + 1)) (s + 1) (by omega) (by omega)]
        have e1 : shl .u64 1 (s : Int) = ((2 ^ s : Nat) : Int) := by
          have := shl_eq 1 s (by omega) (by omega)
          rw [Nat.one_mul] at this
          exact this
        rw [e1, show IntKind.u64.wrap ((m : Int) - ((m / 2 ^ (s + 1) * 2 ^ (s + 1) : Nat) : Int)) = ((m % 2 ^ (s + 1) : Nat) : Int) by rw [u64w _ (by omega) (by omega)]; omega]
        have hkept : kept m (s + 1 + 52) = m / 2 ^ (s + 1) + (decide (2 ^ s < m % 2 ^ (s + 1)) || (decide (2 ^ s = m % 2 ^ (s + 1)) && decide (m / 2 ^ (s + 1) % 2 = 1))).toNat := by
          unfold kept
          rw [if_neg (by omega), show s + 1 + 52 - 52 = s + 1 by omega]
          have hp : 2 ^ (s + 1) = 2 * 2 ^ s := by rw [Nat.pow_succ, Nat.mul_comm]
          have t1 : decide (2 ^ (s + 1) < 2 * (m % 2 ^ (s + 1))) = decide (2 ^ s < m % 2 ^ (s + 1)) := decide_eq_decide.2 (by omega)
          have t2 : (2 ^ (s + 1) == 2 * (m % 2 ^ (s + 1))) = decide (2 ^ s = m % 2 ^ (s + 1)) := by rw [Bool.eq_iff_iff, beq_iff_eq, decide_eq_true_iff]; omega
          rw [t1, t2]
          rfl
        rw [hkept] at k1 k2 ⊢
        generalize m / 2 ^ (s + 1) = q at *
        generalize m % 2 ^ (s + 1) = r at *
        generalize (2 : Nat) ^ s = H at *
        have fq : decide (H < r) = false → (decide (H = r) && decide (q % 2 = 1)) = false → some (IntKind.u64.wrap ((IntKind.u64.wrap (S + (IntKind.u64.wrap ((IntKind.u64.wrap (wrap64 (1023 + ((s + 1 + 52 : Nat) : Int)))) * 4503599627370496)))) + (IntKind.u64.wrap ((q : Int) - 4503599627370496)))) = some (S + (((1022 + (s + 1 + 52)) * 4503599627370496 + (q + (decide (H < r) || decide (H = r) && decide (q % 2 = 1)).toNat) : Nat) : Int)) := by
          intro g1 g2
          rw [g1, g2] at k1 k2 ⊢
          congr 1
          exact fin18 S hS _ _ hb k1 k2 _ rfl
        have fq1 : (decide (H < r) || decide (H = r) && decide (q % 2 = 1)) = true → some (IntKind.u64.wrap ((IntKind.u64.wrap (S + (IntKind.u64.wrap ((IntKind.u64.wrap (wrap64 (1023 + ((s + 1 + 52 : Nat) : Int)))) * 4503599627370496)))) + (IntKind.u64.wrap ((IntKind.u64.wrap ((q : Int) + 1)) - 4503599627370496)))) = some (S + (((1022 + (s + 1 + 52)) * 4503599627370496 + (q + (decide (H < r) || decide (H = r) && decide (q % 2 = 1)).toNat) : Nat) : Int)) := by
          intro g1
          rw [g1] at k1 k2 ⊢
          have k3 : q + 1 ≤ 9007199254740992 := k2
          congr 1
          exact fin18 S hS _ _ hb k1 k2 _ (by rw [u64w _ (by omega) (by omega)]; rfl)
        by_cases c3 : (r : Int) > (H : Int)
        · rw [if_pos c3]
          exact fq1 (by rw [decide_eq_true (show H < r by omega)]; rfl)
        · rw [if_neg c3]
          have g1 : decide (H < r) = false := decide_eq_false (by omega)
          by_cases c4 : (r : Int) = (H : Int)
          · rw [if_pos c4]
            have g2 : decide (H = r) = true := decide_eq_true (by omega)
            by_cases c5 : Int.tmod (q : Int) 2 = 1
            · rw [if_pos c5]
              rw [Int.tmod_eq_emod_of_nonneg (by omega)] at c5
              exact fq1 (by rw [g1, g2, decide_eq_true (show q % 2 = 1 by omega)]; rfl)
            · rw [if_neg c5]
              rw [Int.tmod_eq_emod_of_nonneg (by omega)] at c5
              exact fq g1 (by rw [g2, decide_eq_false (show ¬ q % 2 = 1 by omega)]; rfl)
          · rw [if_neg c4]
            exact fq g1 (by rw [decide_eq_false (show ¬ H = r by omega)]; rfl)
theorem foi (a : Int) : floatOfInt .f64 a = double.nearest (decide (a < 0)) a.natAbs 0 := rfl
theorem tof_eq (a : Int) (h : -9223372036854775808 ≤ a ∧ a ≤ 9223372036854775807) : caulkerref05_ToFloat.f (100 + 1) a = some ((floatOfInt .f64 a : Nat) : Int) := by
  unfold caulkerref05_ToFloat.f
  by_cases h0 : a = 0
  · subst h0; rw [if_pos rfl, foi]; rfl
  rw [if_neg h0, foi, near_int _ _ (by omega) (by omega)]
  obtain ⟨m, hm⟩ : ∃ m, a.natAbs = m := ⟨_, rfl⟩
  rw [hm]
  have hm0 : m ≠ 0 := by omega
  have hb : m.log2 ≤ 63 := by have := (Nat.log2_lt hm0 (k := 64)).2 (by omega); omega
  have b1 : 2 ^ m.log2 ≤ m := Nat.log2_self_le hm0
  have b2 : m < 2 ^ (m.log2 + 1) := (Nat.log2_lt hm0).1 (Nat.lt_succ_self _)
  by_cases hn : a < 0
  · rw [if_pos hn, show IntKind.u64.wrap (-(IntKind.u64.wrap a)) = (m : Int) by rw [uw7, uw7]; omega, decide_eq_true hn, if_pos rfl, caulkerref05_ToFloat.j0]
    rw [show (0 : Int) = ((0 : Nat) : Int) from rfl, tof_l0 _ (Or.inr rfl) m m.log2 b1 b2 hb (by omega) 100 0 (by omega) (by omega)]
    rfl
  · rw [if_neg hn, show IntKind.u64.wrap a = (m : Int) by rw [uw7]; omega, decide_eq_false hn, if_neg (by decide), caulkerref05_ToFloat.j0]
    have := tof_l0 0 (Or.inl rfl) m m.log2 b1 b2 hb (by omega) 100 0 (by omega) (by omega)
    rw [show ((0 : Nat) : Int) = 0 from rfl] at this
    rw [this, Int.zero_add, Nat.zero_add]
end Go.Proofs.YtbnopcndjdpnkaaDoor.Pure
