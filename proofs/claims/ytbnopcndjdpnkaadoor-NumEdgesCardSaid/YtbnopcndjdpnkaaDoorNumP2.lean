import Derived.Test.YtbnopcndjdpnkaaDoorX20
import Derived.Test.YtbnopcndjdpnkaaDoorX29
import Derived.Test.YtbnopcndjdpnkaaDoorX31
import Derived.Test.YtbnopcndjdpnkaaDoorFloatInt
namespace Go.Proofs.YtbnopcndjdpnkaaDoor.Pure
open Go.RowKit Go.Proofs.YtbnopcndjdpnkaaDoor.X Go.Proofs.YtbnopcndjdpnkaaDoorW.PrintWords Go.Proofs.YtbnopcndjdpnkaaDoorW.PrintLast Go.Proofs.YtbnopcndjdpnkaaDoor.Fl
theorem wrap_id2 {n : Int} (h1 : -9223372036854775808 ≤ n) (h2 : n ≤ 9223372036854775807) : wrap64 n = n := by unfold wrap64; omega
theorem uw7 (n : Int) : IntKind.u64.wrap n = n % 18446744073709551616 := by
  simp [IntKind.wrap, IntKind.signed, IntKind.bits]
theorem parts_eq (n : Nat) (h : n < 18446744073709551616) : caulkerref05_Parts.f (n : Int) = some (decide (9223372036854775808 ≤ n), ((n / 4503599627370496 % 2048 : Nat) : Int), ((n % 4503599627370496 : Nat) : Int)) := by
  unfold caulkerref05_Parts.f
  rw [Int.tmod_eq_emod_of_nonneg (by omega), Int.tmod_eq_emod_of_nonneg (by omega), wrap_id2 (by omega) (by omega)]
  have h1 : (((n : Int) / 9223372036854775808) == 1) = decide (9223372036854775808 ≤ n) := by
    rw [Bool.eq_iff_iff, beq_iff_eq, decide_eq_true_iff]; omega
  rw [h1]
  rfl
theorem none_eq (n : Nat) (h : n < 18446744073709551616) : caulkerref05_None.f (n : Int) = some (isN n) := by
  unfold caulkerref05_None.f
  rw [parts_eq n h, Option.bind_some]
  dsimp only
  unfold isN rung
  by_cases h1 : ((n / 4503599627370496 % 2048 : Nat) : Int) = 2047
  · rw [if_pos h1]
    congr 1
    rw [Bool.eq_iff_iff, bne_iff_ne, decide_eq_true_iff]
    omega
  · rw [if_neg h1]
    congr 1
    rw [Bool.eq_iff_iff, decide_eq_true_iff]
    constructor
    · intro h; cases h
    · intro h; omega
theorem zero_eq (n : Nat) (h : n < 18446744073709551616) : caulkerref05_Zero.f (n : Int) = some (decide (rung n = 0)) := by
  unfold caulkerref05_Zero.f rung
  rw [uw7]
  congr 1
  rw [Bool.eq_iff_iff, beq_iff_eq, decide_eq_true_iff]
  omega
theorem key_of (n : Nat) (h : n < 18446744073709551616) : key n = if 9223372036854775808 ≤ n then -((n : Int) - 9223372036854775808) else (n : Int) := by
  unfold key sgn rung
  by_cases h1 : 9223372036854775808 ≤ n
  · rw [if_pos h1, if_pos (by rw [beq_iff_eq]; omega)]; omega
  · rw [if_neg h1, if_neg (by rw [beq_iff_eq]; omega)]; omega
end Go.Proofs.YtbnopcndjdpnkaaDoor.Pure
