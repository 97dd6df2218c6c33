import Derived.Laws.Bits64
import Derived.Lib.Zigzag
import Derived.ProofKit
namespace Go.Proofs.YtbnopcndjdpnkaaDoor.NumP
open Go Go.RowKit
theorem xor_low (n : Nat) (h : n < 9223372036854775808) : n ^^^ 9223372036854775808 = n + 9223372036854775808 := by
  have e := Nat.two_pow_add_eq_or_of_lt (i := 63) (b := n) (by simpa using h) 1
  rw [show (2 : Nat) ^ 63 = 9223372036854775808 by decide, Nat.mul_one] at e
  rw [Nat.add_comm, e]
  apply Nat.eq_of_testBit_eq
  intro i
  rw [Nat.testBit_xor, Nat.testBit_or, show (9223372036854775808 : Nat) = 2 ^ 63 by decide, Nat.testBit_two_pow]
  by_cases hi : 63 = i
  · subst hi
    rw [Nat.testBit_lt_two_pow (by simpa using h)]; rfl
  · rw [decide_eq_false hi, Bool.xor_false, Bool.false_or]
theorem xor_high (n : Nat) (h : 9223372036854775808 ≤ n) (h2 : n < 18446744073709551616) : n ^^^ 9223372036854775808 = n - 9223372036854775808 := by
  obtain ⟨r, rfl⟩ : ∃ r, n = r + 9223372036854775808 := ⟨n - 9223372036854775808, by omega⟩
  rw [← xor_low r (by omega), Nat.xor_assoc, Nat.xor_self, Nat.xor_zero, xor_low r (by omega)]
  omega
theorem xor_eq (n : Nat) (h : n < 18446744073709551616) : Go.bits .xor .u64 (n : Int) 9223372036854775808 = wrap64 (n : Int) + 9223372036854775808 := by
  have e := bits_xor_u64_nat n 9223372036854775808 h (by decide)
  rw [show ((9223372036854775808 : Nat) : Int) = 9223372036854775808 from rfl] at e
  rw [e]
  by_cases h1 : n < 9223372036854775808
  · rw [xor_low n h1]; unfold wrap64; omega
  · rw [xor_high n (by omega) h]; unfold wrap64; omega
end Go.Proofs.YtbnopcndjdpnkaaDoor.NumP
