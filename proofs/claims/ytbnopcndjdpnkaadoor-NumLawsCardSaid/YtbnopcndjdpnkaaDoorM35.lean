/- What the program's functions answer, as Lean functions, and that each call does just that; no condition. Written by a program (px.py) out of the translation. -/
import Derived.Test.YtbnopcndjdpnkaaDoorX0
import Derived.Test.YtbnopcndjdpnkaaDoorX20
import Derived.Test.YtbnopcndjdpnkaaDoorX29
import Derived.Test.YtbnopcndjdpnkaaDoorFloatInt
section
namespace Go.Proofs.YtbnopcndjdpnkaaDoor.X
open Go.RowKit Go.Proofs.YtbnopcndjdpnkaaDoorW.PrintWords Go.Proofs.YtbnopcndjdpnkaaDoorW.PrintLast Go.Proofs.YtbnopcndjdpnkaaDoorW.PrintMore
attribute [local go_sem] max2_int min2_int max_two min_two max_three min_three max_four min_four   -- for this text's walks alone
set_option linter.unusedVariables false
set_option linter.unusedSimpArgs false

/-! ### caulkerref05_Zero: function 31 -/
def caulkerref05_Zero.f (a0 : Int) : Option (Bool) := some ((IntKind.u64.wrap (a0 * 2)) == 0)
set_option maxHeartbeats 8000000 in
set_option maxRecDepth 100000 in
theorem caulkerref05_Zero.calls (a0 : Int) (r : Bool) (w : World) (h : caulkerref05_Zero.f a0 = some r) :
  Calls Tryd.prog 31 #[.int .u64 a0] w fun e w' => e = .returned (.bool r) ∧ Drawn0 w w' := by
 have H : (some ((IntKind.u64.wrap (a0 * 2)) == 0)) = some r := h
 clear h
 obtain rfl := Option.some.inj H
 go_enter Tryd.func31, Tryd.ntmps31
 go_wp2
 go_ret
 exact ⟨by first | rfl | (simp; done) | (simp [*]; done), by repeat (first | exact Drawn0.refl _ | apply Drawn0.step)⟩

end Go.Proofs.YtbnopcndjdpnkaaDoor.X
end
section
namespace Go.Proofs.YtbnopcndjdpnkaaDoor.Pure
open Go.RowKit Go.Proofs.YtbnopcndjdpnkaaDoor.X Go.Proofs.YtbnopcndjdpnkaaDoorW.PrintWords Go.Proofs.YtbnopcndjdpnkaaDoorW.PrintLast Go.Proofs.YtbnopcndjdpnkaaDoor.Fl
theorem wrap_id2 {n : Int} (h1 : -9223372036854775808 ≤ n) (h2 : n ≤ 9223372036854775807) : wrap64 n = n := by unfold wrap64; omega
theorem uw7 (n : Int) : IntKind.u64.wrap n = n % 18446744073709551616 := by
  simp [IntKind.wrap, IntKind.signed, IntKind.bits]
theorem parts_eq (n : Nat) (h : n < 18446744073709551616) : caulkerref05_Parts.f (n : Int) = some (decide (9223372036854775808 ≤ n), ((n / 4503599627370496 % 2048 : Nat) : Int), ((n % 4503599627370496 : Nat) : Int)) := by
  unfold caulkerref05_Parts.f
  rw [Int.tmod_eq_emod_of_nonneg (by omega), Int.tmod_eq_emod_of_nonneg (by omega), wrap_id2 (by omega) (by omega)]
  have h1 : (((n : Int) / 9223372036854775808) == 1) = decide (9223372036854775808 ≤ n) := by
    rw [Bool.eq_iff_iff, beq_iff_eq, decide_eq_true_iff]; omega
  rw [h1]
  rfl
theorem none_eq (n : Nat) (h : n < 18446744073709551616) : caulkerref05_None.f (n : Int) = some (isN n) := by
  unfold caulkerref05_None.f
  rw [parts_eq n h, Option.bind_some]
  dsimp only
  unfold isN rung
  by_cases h1 : ((n / 4503599627370496 % 2048 : Nat) : Int) = 2047
  · rw [if_pos h1]
    congr 1
    rw [Bool.eq_iff_iff, bne_iff_ne, decide_eq_true_iff]
    omega
  · rw [if_neg h1]
    congr 1
    rw [Bool.eq_iff_iff, decide_eq_true_iff]
    constructor
    · intro h; cases h
    · intro h; omega
theorem zero_eq (n : Nat) (h : n < 18446744073709551616) : caulkerref05_Zero.f (n : Int) = some (decide (rung n = 0)) := by
  unfold caulkerref05_Zero.f rung
  rw [uw7]
  congr 1
  rw [Bool.eq_iff_iff, beq_iff_eq, decide_eq_true_iff]
  omega
theorem key_of (n : Nat) (h : n < 18446744073709551616) : key n = if 9223372036854775808 ≤ n then -((n : Int) - 9223372036854775808) else (n : Int) := by
  unfold key sgn rung
  by_cases h1 : 9223372036854775808 ≤ n
  · rw [if_pos h1, if_pos (by rw [beq_iff_eq]; omega)]; omega
  · rw [if_neg h1, if_neg (by rw [beq_iff_eq]; omega)]; omega
end Go.Proofs.YtbnopcndjdpnkaaDoor.Pure
end
