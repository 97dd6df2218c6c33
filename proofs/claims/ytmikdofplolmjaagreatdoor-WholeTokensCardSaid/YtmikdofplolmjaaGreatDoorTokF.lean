import Derived.Test.YtmikdofplolmjaaGreatDoorNumW2
import Derived.Test.YtmikdofplolmjaaGreatDoorNumP1
namespace Go.Proofs.YtmikdofplolmjaaGreatDoor.Pure
open Go.RowKit Go.Proofs.YtmikdofplolmjaaGreatDoor.NuW Go.Proofs.YtmikdofplolmjaaGreatDoor.Fl Ieee
/-- The nearest kept digits of m at the place b. -/
def kept (m b : Nat) : Nat := if b ≤ 52 then m * 2 ^ (52 - b) else m / 2 ^ (b - 52) + (decide (2 ^ (b - 52) < 2 * (m % 2 ^ (b - 52))) || (2 ^ (b - 52) == 2 * (m % 2 ^ (b - 52)) && m / 2 ^ (b - 52) % 2 == 1)).toNat
theorem cut_even (s : Bool) (n d : Nat) (h : d ≤ n.log2) : Toward.even.cut s n d = n / 2 ^ d + (decide (2 ^ d < 2 * (n % 2 ^ d)) || (2 ^ d == 2 * (n % 2 ^ d) && n / 2 ^ d % 2 == 1)).toNat := by
  unfold Toward.cut
  dsimp only
  rw [Nat.min_eq_left (by omega), Nat.shiftLeft_eq, Nat.one_mul]
theorem cut_even0 (s : Bool) (n : Nat) : Toward.even.cut s n 0 = n := by
  rw [cut_even s n 0 (by omega), Nat.pow_zero, Nat.div_one, Nat.mod_one]
  rfl
theorem kept_le (m b : Nat) (h1 : 2 ^ b ≤ m) (h2 : m < 2 ^ (b + 1)) (hb : b ≤ 63) : 4503599627370496 ≤ kept m b ∧ kept m b ≤ 9007199254740992 := by
  unfold kept
  by_cases c : b ≤ 52
  · rw [if_pos c]
    have e1 : 2 ^ b * 2 ^ (52 - b) = 4503599627370496 := by rw [← Nat.pow_add, show b + (52 - b) = 52 by omega]
    have e2 : 2 ^ (b + 1) * 2 ^ (52 - b) = 9007199254740992 := by rw [← Nat.pow_add, show b + 1 + (52 - b) = 53 by omega]
    constructor
    · rw [← e1]; exact Nat.mul_le_mul_right _ h1
    · rw [← e2]; exact Nat.mul_le_mul_right _ (by omega)
  · rw [if_neg c]
    have e1 : 4503599627370496 * 2 ^ (b - 52) = 2 ^ b := by rw [show (4503599627370496 : Nat) = 2 ^ 52 by decide, ← Nat.pow_add, show 52 + (b - 52) = b by omega]
    have e2 : 9007199254740992 * 2 ^ (b - 52) = 2 ^ (b + 1) := by rw [show (9007199254740992 : Nat) = 2 ^ 53 by decide, ← Nat.pow_add, show 53 + (b - 52) = b + 1 by omega]
    have k1 : 4503599627370496 ≤ m / 2 ^ (b - 52) := (Nat.le_div_iff_mul_le (Nat.two_pow_pos _)).2 (by omega)
    have k2 : m / 2 ^ (b - 52) < 9007199254740992 := (Nat.div_lt_iff_lt_mul (Nat.two_pow_pos _)).2 (by omega)
    have k3 : ∀ c : Bool, c.toNat ≤ 1 := by decide
    have := k3 (decide (2 ^ (b - 52) < 2 * (m % 2 ^ (b - 52))) || (2 ^ (b - 52) == 2 * (m % 2 ^ (b - 52)) && m / 2 ^ (b - 52) % 2 == 1))
    omega
theorem near_int (s : Bool) (m : Nat) (h0 : m ≠ 0) (h : m < 18446744073709551616) : double.nearest s m 0 = (if s then 9223372036854775808 else 0) + ((1022 + m.log2) * 4503599627370496 + kept m m.log2) := by
  have hb : m.log2 ≤ 63 := by have := (Nat.log2_lt h0 (k := 64)).2 (by omega); omega
  have b1 : 2 ^ m.log2 ≤ m := Nat.log2_self_le h0
  have b2 : m < 2 ^ (m.log2 + 1) := (Nat.log2_lt h0).1 (Nat.lt_succ_self _)
  have hk := kept_le m m.log2 b1 b2 hb
  unfold Format.nearest
  rw [if_neg h0, c_lp, show (double.fractionBits : Int) = 52 from rfl, c_bi, c_inf]
  dsimp only
  rw [show max ((0 : Int) + (m.log2 : Int) - 52) (-1074) = (m.log2 : Int) - 52 by omega]
  rw [show ((m.log2 : Int) - 52 - -1074).toNat = 1022 + m.log2 by omega]
  have hcut : Toward.even.cut s (m <<< ((0 : Int) - ((m.log2 : Int) - 52)).toNat) (((m.log2 : Int) - 52) - 0).toNat = kept m m.log2 := by
    unfold kept
    by_cases c : m.log2 ≤ 52
    · rw [if_pos c, show ((0 : Int) - ((m.log2 : Int) - 52)).toNat = 52 - m.log2 by omega, show (((m.log2 : Int) - 52) - 0).toNat = 0 by omega, cut_even0, Nat.shiftLeft_eq]
    · rw [if_neg c, show ((0 : Int) - ((m.log2 : Int) - 52)).toNat = 0 by omega, show (((m.log2 : Int) - 52) - 0).toNat = m.log2 - 52 by omega, Nat.shiftLeft_eq, Nat.pow_zero, Nat.mul_one]
      exact cut_even s m _ (by omega)
  rw [hcut, Nat.min_eq_left (by omega)]
  unfold Format.word
  rw [c_sw]
  cases s
  · simp
  · simp
theorem fLt_eq (n m : Nat) : fLt n m = (!isN n && !isN m && decide (key n < key m)) := by
  unfold fLt
  cases hn : isN n with
  | true => rw [order_nan (Or.inl hn)]; rfl
  | false =>
    cases hm : isN m with
    | true => rw [order_nan (Or.inr hm)]; rfl
    | false =>
      rw [order_key hn hm, Bool.eq_iff_iff]
      simp [Int.compare_eq_lt]
/-- The word of a sign and a rung. -/
def wd (s : Bool) (r : Nat) : Nat := if s then 9223372036854775808 + r else r
theorem word_wd (s : Bool) (r : Nat) : double.word s r = wd s r := by
  unfold Format.word wd
  rw [c_sw]
theorem word_of (n : Nat) (h : n < 18446744073709551616) : n = wd (sgn n) (rung n) := by
  unfold wd sgn rung
  by_cases h1 : 9223372036854775808 ≤ n
  · rw [if_pos (by rw [beq_iff_eq]; omega)]; omega
  · rw [if_neg (by rw [beq_iff_eq]; omega)]; omega
theorem sgn_dec (n : Nat) (h : n < 18446744073709551616) : decide (9223372036854775808 ≤ n) = sgn n := by
  unfold sgn
  rw [Bool.eq_iff_iff, decide_eq_true_iff, beq_iff_eq]
  omega
theorem fneg_fin (n : Nat) (h : n < 18446744073709551616) (hn : isN n = false) : fneg n = wd (!sgn n) (rung n) := by
  unfold fneg
  rw [hn, if_neg (by decide)]
  by_cases h1 : n < 9223372036854775808
  · rw [NumP.xor_low n h1]
    have : sgn n = false := by rw [← sgn_dec n h]; exact decide_eq_false (by omega)
    rw [this]
    show _ = 9223372036854775808 + rung n
    unfold rung; omega
  · rw [NumP.xor_high n (by omega) h]
    have : sgn n = true := by rw [← sgn_dec n h]; exact decide_eq_true (by omega)
    rw [this]
    show _ = rung n
    unfold rung; omega
theorem wd_parts (s : Bool) (r : Nat) (h : r < 9223372036854775808) : sgn (wd s r) = s ∧ rung (wd s r) = r ∧ wd s r < 18446744073709551616 := by
  have hl : wd s r < 18446744073709551616 := by unfold wd; split <;> omega
  refine ⟨?_, ?_, hl⟩
  · rw [← sgn_dec _ hl]
    cases s
    · exact decide_eq_false (by show ¬ 9223372036854775808 ≤ r; omega)
    · exact decide_eq_true (by show 9223372036854775808 ≤ 9223372036854775808 + r; omega)
  · unfold rung
    cases s
    · show r % 9223372036854775808 = r; omega
    · show (9223372036854775808 + r) % 9223372036854775808 = r; omega
theorem rung_lt (n : Nat) : rung n < 9223372036854775808 := by unfold rung; omega
theorem neg_neg (n : Nat) (h : n < 18446744073709551616) (hn : isN n = false) : fneg (fneg n) = n ∧ fneg n < 18446744073709551616 := by
  rw [fneg_fin n h hn]
  obtain ⟨p1, p2, p3⟩ := wd_parts (!sgn n) (rung n) (rung_lt n)
  have hn2 : isN (wd (!sgn n) (rung n)) = false := by
    unfold isN at hn ⊢
    rw [p2]; exact hn
  refine ⟨?_, p3⟩
  rw [fneg_fin _ p3 hn2, p1, p2, Bool.not_not]
  exact (word_of n h).symm
theorem kept_floor (f d : Nat) (hf : f < 4503599627370496) : (4503599627370496 + f) / 2 ^ d * 2 ^ d ≤ 4503599627370496 + f := Nat.div_mul_le_self _ _
/-- What a double that isn't less than nought is as a whole number, is as a double no more than it. -/
theorem back_le (a : Nat) (hs : sgn a = false) (hn : isN a = false) : fLt a (floatOfInt .f64 (toI a)) = false := by
  rw [fLt_eq, hn]
  have hka : key a = (rung a : Int) := by unfold key; rw [hs]; rfl
  have goal : ∀ b : Nat, key b ≤ key a → (!false && !isN b && decide (key a < key b)) = false := by
    intro b h
    rw [decide_eq_false (by omega), Bool.and_false]
  apply goal
  unfold toI
  rw [hn, if_neg (by decide)]
  by_cases c1 : key c63 ≤ key a
  · rw [if_pos c1, show floatOfInt .f64 9223372036854775807 = c63 by decide +kernel]
    exact c1
  · rw [if_neg c1]
    have c2 : ¬ key a < key m63 := by rw [key_m63, hka]; omega
    rw [if_neg c2]
    obtain ⟨w1, w2, w3⟩ := whole_range (a := a) (by omega) c2
    have hw : whole a = ((mag (rung a) / 2 ^ 1074 : Nat) : Int) := by unfold whole sv; rw [hs]; rfl
    rw [hw] at w3 ⊢
    rw [hka]
    generalize rung a = r at w1 w3 ⊢
    clear hw goal c1 c2 hka hs hn w2
    obtain ⟨D, hD⟩ : ∃ D, D = 1074 := ⟨_, rfl⟩
    rw [← hD] at w3 ⊢
    obtain ⟨n, hnn⟩ : ∃ n, mag r / 2 ^ D = n := ⟨_, rfl⟩
    rw [hnn] at w3 ⊢
    by_cases h0 : n = 0
    · subst h0
      rw [show floatOfInt .f64 ((0 : Nat) : Int) = 0 by decide +kernel, show key 0 = 0 by decide]
      omega
    · have hfo : floatOfInt .f64 (n : Int) = double.nearest false n 0 := by
        show double.nearest (decide ((n : Int) < 0)) (n : Int).natAbs 0 = _
        rw [decide_eq_false (by omega), Int.natAbs_natCast]
      have hle : floatOfInt .f64 (n : Int) ≤ r := by
        rw [hfo, near_int false n h0 (by omega)]
        show 0 + _ ≤ r
        unfold mag at hnn
        by_cases hr : r < 4503599627370496
        · rw [if_pos hr] at hnn
          have : r / 2 ^ D = 0 := by
            apply Nat.div_eq_of_lt
            have h1 : (2 : Nat) ^ 52 ≤ 2 ^ D := Nat.pow_le_pow_right (by decide) (by omega)
            have h2 : (2 : Nat) ^ 52 = 4503599627370496 := by decide
            omega
          omega
        · rw [if_neg hr] at hnn
          obtain ⟨e, he⟩ : ∃ e, r / 4503599627370496 - 1 = e := ⟨_, rfl⟩
          obtain ⟨f, hf⟩ : ∃ f, r % 4503599627370496 = f := ⟨_, rfl⟩
          have hf2 : f < 4503599627370496 := by omega
          have hr2 : r = (e + 1) * 4503599627370496 + f := by omega
          rw [he, hf] at hnn
          have h52 : (2 : Nat) ^ 52 = 4503599627370496 := by decide
          have h53 : (2 : Nat) ^ 53 = 9007199254740992 := by decide
          by_cases hE : D ≤ e
          · have hn2 : n = (4503599627370496 + f) * 2 ^ (e - D) := by
              rw [← hnn, show e = (e - D) + D by omega, Nat.pow_add, ← Nat.mul_assoc, Nat.mul_div_cancel _ (Nat.two_pow_pos D), show e - D + D - D = e - D by omega]
            obtain ⟨c, hc⟩ : ∃ c, e - D = c := ⟨_, rfl⟩
            rw [hc] at hn2
            have hl : n.log2 = 52 + c := by
              have a1 : 2 ^ (52 + c) ≤ n := by rw [hn2, Nat.pow_add, h52]; exact Nat.mul_le_mul_right _ (by omega)
              have a2 : n < 2 ^ (52 + c + 1) := by
                rw [hn2, show 52 + c + 1 = 53 + c by omega, Nat.pow_add, h53]
                exact Nat.mul_lt_mul_of_pos_right (by omega) (Nat.two_pow_pos _)
              have := (Nat.le_log2 h0).2 a1
              have := (Nat.log2_lt h0).2 a2
              omega
            have hk : kept n (52 + c) = 4503599627370496 + f := by
              unfold kept
              by_cases hc0 : 52 + c ≤ 52
              · rw [if_pos hc0, hn2, show c = 0 by omega]; simp
              · rw [if_neg hc0, show 52 + c - 52 = c by omega, hn2, Nat.mul_div_cancel _ (Nat.two_pow_pos c), Nat.mul_mod_left]
                have hp := Nat.two_pow_pos c
                rw [decide_eq_false (by omega), beq_eq_false_iff_ne.2 (by omega)]
                rfl
            rw [hl, hk]
            omega
          · obtain ⟨d, hd⟩ : ∃ d, D - e = d := ⟨_, rfl⟩
            have hn2 : n = (4503599627370496 + f) / 2 ^ d := by
              rw [← hnn, show D = d + e by omega, Nat.pow_add, Nat.mul_div_mul_right _ _ (Nat.two_pow_pos e)]
            have hd52 : d ≤ 52 := by
              by_cases hd2 : d ≤ 52
              · exact hd2
              · exfalso
                apply h0
                rw [hn2]
                apply Nat.div_eq_of_lt
                have h1 : (2 : Nat) ^ 53 ≤ 2 ^ d := Nat.pow_le_pow_right (by decide) (by omega)
                omega
            have hfl : n * 2 ^ d ≤ 4503599627370496 + f := by rw [hn2]; exact Nat.div_mul_le_self _ _
            have hl : n.log2 = 52 - d := by
              have a1 : 2 ^ (52 - d) ≤ n := by
                rw [hn2, Nat.le_div_iff_mul_le (Nat.two_pow_pos _), ← Nat.pow_add, show 52 - d + d = 52 by omega, h52]
                omega
              have a2 : n < 2 ^ (52 - d + 1) := by
                rw [hn2, Nat.div_lt_iff_lt_mul (Nat.two_pow_pos _), ← Nat.pow_add, show 52 - d + 1 + d = 53 by omega, h53]
                omega
              have := (Nat.le_log2 h0).2 a1
              have := (Nat.log2_lt h0).2 a2
              omega
            have hk : kept n (52 - d) = n * 2 ^ d := by
              unfold kept
              rw [if_pos (by omega), show 52 - (52 - d) = d by omega]
            rw [hl, hk]
            omega
      generalize floatOfInt .f64 (n : Int) = q at hle
      have hq : q < 9218868437227405312 := by omega
      have e1 : key q = (q : Int) := by
        unfold key rung
        rw [← sgn_dec q (by omega), decide_eq_false (by omega), if_neg (by decide)]
        omega
      rw [e1]
      omega
end Go.Proofs.YtmikdofplolmjaaGreatDoor.Pure
