/- Doubles as whole numbers: what is left of the point. No program; no condition beyond those named. -/
import Derived.Test.YtbnopcndjdpnkaaDoorFloatTheory
namespace Go.Proofs.YtbnopcndjdpnkaaDoor.Fl
open Ieee
theorem cut_zero (s : Bool) (n d : Nat) : Toward.zero.cut s n d = n / 2 ^ d := by
  unfold Toward.cut
  show n / (1 <<< min d (n.log2 + 2)) + 0 = _
  rw [Nat.add_zero, Nat.shiftLeft_eq, Nat.one_mul]
  by_cases h : d ≤ n.log2 + 2
  · rw [Nat.min_eq_left h]
  · rw [Nat.min_eq_right (by omega)]
    have h1 : n < 2 ^ (n.log2 + 1) := by
      rcases Nat.eq_zero_or_pos n with h0 | h0
      · subst h0; exact Nat.two_pow_pos _
      · exact (Nat.log2_lt (by omega)).1 (Nat.lt_succ_self _)
    have h2 : 2 ^ (n.log2 + 1) ≤ 2 ^ (n.log2 + 2) := Nat.pow_le_pow_right (by omega) (by omega)
    have h3 : 2 ^ (n.log2 + 1) ≤ 2 ^ d := Nat.pow_le_pow_right (by omega) (by omega)
    rw [Nat.div_eq_of_lt (by omega), Nat.div_eq_of_lt (by omega)]
/-- A finite double, cut at the point. -/
def whole (a : Nat) : Int := sv (sgn a) (mag (rung a) / 2 ^ 1074)
theorem pow_split (m p b : Nat) (h : b ≤ p) : m * 2 ^ p = m * 2 ^ (p - b) * 2 ^ b := by rw [Nat.mul_assoc, ← Nat.pow_add, Nat.sub_add_cancel h]
theorem div_lt_of (x a b : Nat) (hb : 0 < b) (h : x < a * b) : x / b < a := (Nat.div_lt_iff_lt_mul hb).2 h
theorem toInt_fin {a : Nat} (h : rung a < 9218868437227405312) : (double.read a).toInt .zero = some (whole a) := by
  obtain ⟨m, p, e1, e2⟩ := read_fin h
  rw [e1]
  show some (signed (sgn a) (Toward.zero.cut (sgn a) (m <<< (-1074 + (p : Int)).toNat) (-(-1074 + (p : Int))).toNat) 0) = _
  rw [signed_eq, cut_zero, Nat.pow_zero, Nat.mul_one, Nat.shiftLeft_eq]
  unfold whole
  rw [← e2]
  congr 2
  rcases Nat.le_total p 1074 with hp | hp
  · rw [show (-1074 + (p : Int)).toNat = 0 by omega, show (-(-1074 + (p : Int))).toNat = 1074 - p by omega, Nat.pow_zero, Nat.mul_one]
    have : (2 : Nat) ^ 1074 = 2 ^ (1074 - p) * 2 ^ p := by rw [← Nat.pow_add, Nat.sub_add_cancel hp]
    rw [this, Nat.mul_div_mul_right _ _ (Nat.two_pow_pos _)]
  · rw [show (-1074 + (p : Int)).toNat = p - 1074 by omega, show (-(-1074 + (p : Int))).toNat = 0 by omega, Nat.pow_zero, Nat.div_one]
    have : m * 2 ^ p = m * 2 ^ (p - 1074) * 2 ^ 1074 := pow_split m p 1074 hp
    rw [this]
    have hp0 := Nat.two_pow_pos 1074
    generalize (2 : Nat) ^ 1074 = D at hp0 ⊢
    rw [Nat.mul_div_cancel _ hp0]
/-- 2 to the 63, and the other one. -/
def c63 : Nat := 4890909195324358656
def m63 : Nat := 14114281232179134464
theorem pow4 (a b c d : Nat) (h : a + b = c + d) : 2 ^ a * 2 ^ b = 2 ^ c * 2 ^ d := by rw [← Nat.pow_add, ← Nat.pow_add, h]
theorem mag_c63 : mag 4890909195324358656 = 2 ^ 63 * 2 ^ 1074 := by
  unfold mag
  rw [if_neg (by decide)]
  have : 4503599627370496 + 4890909195324358656 % 4503599627370496 = 2 ^ 52 := by decide
  rw [this]
  have e : 4890909195324358656 / 4503599627370496 - 1 = 1085 := by decide
  rw [e]
  have h := pow4 52 1085 63 1074 rfl
  exact h
theorem key_c63 : key c63 = 4890909195324358656 := by decide
theorem key_m63 : key m63 = -4890909195324358656 := by decide
theorem whole_range {a : Nat} (h1 : key a < key c63) (h2 : ¬ key a < key m63) : rung a < 9218868437227405312 ∧ -9223372036854775808 ≤ whole a ∧ whole a ≤ 9223372036854775807 := by
  rw [key_c63] at h1
  rw [key_m63] at h2
  have hr : rung a < 9223372036854775808 := Nat.mod_lt _ (by decide)
  unfold key at h1 h2
  unfold whole sv
  have h63 : (2 : Nat) ^ 63 = 9223372036854775808 := by decide
  cases hs : sgn a
  · rw [hs] at h1 h2
    simp only [Bool.false_eq_true, if_false] at h1 h2 ⊢
    have h3 : mag (rung a) < 2 ^ 63 * 2 ^ 1074 := by rw [← mag_c63]; exact mag_lt (by omega)
    have h4 : mag (rung a) / 2 ^ 1074 < 2 ^ 63 := by
      have hp0 := Nat.two_pow_pos 1074
      generalize (2 : Nat) ^ 1074 = D at hp0 h3 ⊢
      exact div_lt_of _ _ _ hp0 h3
    rw [h63] at h4
    generalize mag (rung a) / 2 ^ 1074 = q at h4 ⊢
    omega
  · rw [hs] at h1 h2
    simp only [if_true] at h1 h2 ⊢
    have h3 : mag (rung a) ≤ 2 ^ 63 * 2 ^ 1074 := by
      rw [← mag_c63]
      rcases Nat.lt_or_ge (rung a) 4890909195324358656 with h | h
      · exact Nat.le_of_lt (mag_lt h)
      · rw [show rung a = 4890909195324358656 by omega]
        exact Nat.le_refl _
    have h4 : mag (rung a) / 2 ^ 1074 ≤ 2 ^ 63 := by
      have hp0 := Nat.two_pow_pos 1074
      generalize (2 : Nat) ^ 1074 = D at hp0 h3 ⊢
      have := Nat.div_le_div_right (c := D) h3
      rw [Nat.mul_div_cancel _ hp0] at this
      exact this
    rw [h63] at h4
    generalize mag (rung a) / 2 ^ 1074 = q at h4 ⊢
    omega
/-- A double as a whole number, as the program has it. -/
def toI (a : Nat) : Int := if isN a then 0 else if key c63 ≤ key a then 9223372036854775807 else if key a < key m63 then -9223372036854775808 else whole a
theorem c63_ok : isN c63 = false := by decide
theorem m63_ok : isN m63 = false := by decide
theorem ge_c63 {a : Nat} (h : isN a = false) : (double.order a c63 == some .gt || double.order a c63 == some .eq) = decide (key c63 ≤ key a) := by
  rw [order_key h c63_ok]
  simp only [compare, compareOfLessAndEq]
  by_cases h1 : key a < key c63
  · rw [if_pos h1, decide_eq_false (by omega)]; rfl
  · rw [if_neg h1, decide_eq_true (by omega)]
    split <;> rfl
theorem lt_m63 {a : Nat} (h : isN a = false) : (double.order a m63 == some .lt) = decide (key a < key m63) := by
  rw [order_key h m63_ok]
  simp only [compare, compareOfLessAndEq]
  by_cases h1 : key a < key m63
  · rw [if_pos h1, decide_eq_true h1]; rfl
  · rw [if_neg h1, decide_eq_false h1]
    split <;> rfl
theorem toIntVal {a : Nat} (h1 : key a < key c63) (h2 : ¬ key a < key m63) : floatToIntVal .f64 a .i64 = some (whole a) := by
  obtain ⟨h3, h4, h5⟩ := whole_range h1 h2
  unfold floatToIntVal
  rw [show (FloatKind.f64.decode a).toInt .zero = some (whole a) from toInt_fin h3]
  exact if_pos ⟨h4, h5⟩
end Go.Proofs.YtbnopcndjdpnkaaDoor.Fl
