import Derived.Test.YtbnopcndjdpnkaaDoorX18
import Derived.Test.YtbnopcndjdpnkaaDoorPureNumTurnsA
namespace Go.Proofs.YtbnopcndjdpnkaaDoor.Pure
open Go.RowKit Go.Proofs.YtbnopcndjdpnkaaDoor.X Go.Proofs.YtbnopcndjdpnkaaDoorW.PrintWords Go.Proofs.YtbnopcndjdpnkaaDoorW.PrintLast Go.Proofs.YtbnopcndjdpnkaaDoor.Fl Ieee
/-- The nearest kept digits of m at the place b. -/
def kept (m b : Nat) : Nat := if b ≤ 52 then m * 2 ^ (52 - b) else m / 2 ^ (b - 52) + (decide (2 ^ (b - 52) < 2 * (m % 2 ^ (b - 52))) || (2 ^ (b - 52) == 2 * (m % 2 ^ (b - 52)) && m / 2 ^ (b - 52) % 2 == 1)).toNat
theorem cut_even (s : Bool) (n d : Nat) (h : d ≤ n.log2) : Toward.even.cut s n d = n / 2 ^ d + (decide (2 ^ d < 2 * (n % 2 ^ d)) || (2 ^ d == 2 * (n % 2 ^ d) && n / 2 ^ d % 2 == 1)).toNat := by
  unfold Toward.cut
  dsimp only
  rw [Nat.min_eq_left (by omega), Nat.shiftLeft_eq, Nat.one_mul]
theorem cut_even0 (s : Bool) (n : Nat) : Toward.even.cut s n 0 = n := by
  rw [cut_even s n 0 (by omega), Nat.pow_zero, Nat.div_one, Nat.mod_one]
  rfl
theorem kept_le (m b : Nat) (h1 : 2 ^ b ≤ m) (h2 : m < 2 ^ (b + 1)) (hb : b ≤ 63) : 4503599627370496 ≤ kept m b ∧ kept m b ≤ 9007199254740992 := by
  unfold kept
  by_cases c : b ≤ 52
  · rw [if_pos c]
    have e1 : 2 ^ b * 2 ^ (52 - b) = 4503599627370496 := by rw [← Nat.pow_add, show b + (52 - b) = 52 by omega]
    have e2 : 2 ^ (b + 1) * 2 ^ (52 - b) = 9007199254740992 := by rw [← Nat.pow_add, show b + 1 + (52 - b) = 53 by omega]
    constructor
    · rw [← e1]; exact Nat.mul_le_mul_right _ h1
    · rw [← e2]; exact Nat.mul_le_mul_right _ (by omega)
  · rw [if_neg c]
    have e1 : 4503599627370496 * 2 ^ (b - 52) = 2 ^ b := by rw [show (4503599627370496 : Nat) = 2 ^ 52 by decide, ← Nat.pow_add, show 52 + (b - 52) = b by omega]
    have e2 : 9007199254740992 * 2 ^ (b - 52) = 2 ^ (b + 1) := by rw [show (9007199254740992 : Nat) = 2 ^ 53 by decide, ← Nat.pow_add, show 53 + (b - 52) = b + 1 by omega]
    have k1 : 4503599627370496 ≤ m / 2 ^ (b - 52) := (Nat.le_div_iff_mul_le (Nat.two_pow_pos _)).2 (by omega)
    have k2 : m / 2 ^ (b - 52) < 9007199254740992 := (Nat.div_lt_iff_lt_mul (Nat.two_pow_pos _)).2 (by omega)
    have k3 : ∀ c : Bool, c.toNat ≤ 1 := by decide
    have := k3 (decide (2 ^ (b - 52) < 2 * (m % 2 ^ (b - 52))) || (2 ^ (b - 52) == 2 * (m % 2 ^ (b - 52)) && m / 2 ^ (b - 52) % 2 == 1))
    omega
theorem near_int (s : Bool) (m : Nat) (h0 : m ≠ 0) (h : m < 18446744073709551616) : double.nearest s m 0 = (if s then 9223372036854775808 else 0) + ((1022 + m.log2) * 4503599627370496 + kept m m.log2) := by
  have hb : m.log2 ≤ 63 := by have := (Nat.log2_lt h0 (k := 64)).2 (by omega); omega
  have b1 : 2 ^ m.log2 ≤ m := Nat.log2_self_le h0
  have b2 : m < 2 ^ (m.log2 + 1) := (Nat.log2_lt h0).1 (Nat.lt_succ_self _)
  have hk := kept_le m m.log2 b1 b2 hb
  unfold Format.nearest
  rw [if_neg h0, c_lp, show (double.fractionBits : Int) = 52 from rfl, c_bi, c_inf]
  dsimp only
  rw [show max ((0 : Int) + (m.log2 : Int) - 52) (-1074) = (m.log2 : Int) - 52 by omega]
  rw [show ((m.log2 : Int) - 52 - -1074).toNat = 1022 + m.log2 by omega]
  have hcut : Toward.even.cut s (m <<< ((0 : Int) - ((m.log2 : Int) - 52)).toNat) (((m.log2 : Int) - 52) - 0).toNat = kept m m.log2 := by
    unfold kept
    by_cases c : m.log2 ≤ 52
    · rw [if_pos c, show ((0 : Int) - ((m.log2 : Int) - 52)).toNat = 52 - m.log2 by omega, show (((m.log2 : Int) - 52) - 0).toNat = 0 by omega, cut_even0, Nat.shiftLeft_eq]
    · rw [if_neg c, show ((0 : Int) - ((m.log2 : Int) - 52)).toNat = 0 by omega, show (((m.log2 : Int) - 52) - 0).toNat = m.log2 - 52 by omega, Nat.shiftLeft_eq, Nat.pow_zero, Nat.mul_one]
      exact cut_even s m _ (by omega)
  rw [hcut, Nat.min_eq_left (by omega)]
  unfold Format.word
  rw [c_sw]
  cases s
  · simp
  · simp
end Go.Proofs.YtbnopcndjdpnkaaDoor.Pure
