/- The program's functions on doubles, walked: Norm, IsNaN. -/
import Derived.Test.YtbnopcndjdpnkaaDoorFloatTheory
import Derived.Test.YtbnopcndjdpnkaaDoorX0
import Derived.Test.YtbnopcndjdpnkaaDoorShort3
import Derived.Test.YtbnopcndjdpnkaaDoorEvKit
import Derived.Lib.Hide
import Derived.Laws.Cover2
import Derived.Laws.NewFold
namespace Go.Proofs.YtbnopcndjdpnkaaDoor.NuW
open Go.RowKit Go.Proofs.YtbnopcndjdpnkaaDoorW.PrintWords Go.Proofs.YtbnopcndjdpnkaaDoorW.PrintLast Go.Proofs.YtbnopcndjdpnkaaDoor.X Go.Proofs.YtbnopcndjdpnkaaDoor.Fl
set_option linter.unusedVariables false
set_option linter.unusedSimpArgs false
theorem neq_self' (b : Nat) : (FloatKind.f64.format.order b b != some .eq) = isN b := neq_self b
theorem isnan_any (b : Nat) (v : Bool) (w : World) (hv : isN b = v) : Calls Tryd.prog 38 #[.float .f64 b] w fun e w' => e = .returned (.bool v) ∧ w = w' := by
  have h := neq_self' b
  rw [hv] at h
  clear hv
  go_enter Tryd.func38, Tryd.ntmps38
  go_wp2
  go_ret
  exact ⟨rfl, rfl⟩
theorem run_from (n : Nat) (w : World) : (callFunc 32 #[.int .u64 (n : Int)]).run Tryd.prog w = .ok (.value (.float .f64 n)) w := by kernel_rfl
theorem run_bits (n : Nat) (w : World) : (callFunc 37 #[.float .f64 n]).run Tryd.prog w = .ok (.value (.int .u64 (n : Int))) w := by kernel_rfl
theorem run_from2 (n : Nat) (w : World) : (callFunc 67 #[.int .u64 (n : Int)]).run Tryd.prog w = .ok (.value (.float .f64 n)) w := by kernel_rfl
attribute [local go_sem] run_from run_bits run_from2
theorem norm_ok {n : Nat} (h : isN n = false) : norm n = n := by unfold norm; rw [h]; rfl
theorem norm_nan' {n : Nat} (h : isN n = true) : norm n = nanB := by unfold norm; rw [h]; rfl
set_option maxRecDepth 100000 in
theorem norm_any (n : Nat) (w : World) : Calls Tryd.prog 19 #[.int .u64 (n : Int)] w fun e w' => e = .returned (.int .u64 (norm n : Int)) ∧ w = w' := by
  obtain ⟨V, hV⟩ : ∃ V, V = Value.int .u64 (norm n : Int) := ⟨_, rfl⟩
  rw [← hV]
  have HV := Lib.hid hV
  clear hV
  cases hn : isN n
  · have HN := Lib.hid hn
    clear hn
    go_enter Tryd.func19, Tryd.ntmps19
    go_wp2_with (first | (go_at_call 38; (with_reducible refine (isnan_any _ false _ HN.out).mono ?_); rintro e w1 ⟨rfl, rfl⟩))
    go_ret
    exact ⟨by rw [HV.out, norm_ok HN.out]; rfl, rfl⟩
  · have HN := Lib.hid hn
    clear hn
    go_enter Tryd.func19, Tryd.ntmps19
    go_wp2_with (first | (go_at_call 38; (with_reducible refine (isnan_any _ true _ HN.out).mono ?_); rintro e w1 ⟨rfl, rfl⟩))
    go_ret
    exact ⟨by rw [HV.out, norm_nan' HN.out]; rfl, rfl⟩
end Go.Proofs.YtbnopcndjdpnkaaDoor.NuW
