/- Short steps for what a function with a number of rounds answers in the end; no condition. -/
import Derived.Test.YtmikdofplolmjaaGreatDoorShort
import Derived.Test.YtmikdofplolmjaaGreatDoorFloatTheory
import Derived.Test.YtmikdofplolmjaaGreatDoorX0
import Derived.Test.YtmikdofplolmjaaGreatDoorShort3
import Derived.Lib.Hide
import Derived.Laws.Cover2
import Derived.Laws.NewFold
section
namespace Go.Proofs.YtmikdofplolmjaaGreatDoorW.PrintWords
open Go.RowKit
theorem Ev.eq {α : Type} {x : Option α} {r : α} (h : x = some r) : Ev (fun _ => x) r := ⟨0, fun _ _ => h⟩
theorem Ev.pos {α : Type} {c : Prop} [Decidable c] {a b : Nat → Option α} {r : α} (h : c) (k : Ev a r) : Ev (fun n => if c then a n else b n) r := by simpa only [if_pos h] using k
theorem Ev.neg {α : Type} {c : Prop} [Decidable c] {a b : Nat → Option α} {r : α} (h : ¬ c) (k : Ev b r) : Ev (fun n => if c then a n else b n) r := by simpa only [if_neg h] using k
theorem Ev.ite {α : Type} {c : Prop} [Decidable c] {a b : Nat → Option α} {r : α} (h1 : c → Ev a r) (h2 : ¬ c → Ev b r) : Ev (fun n => if c then a n else b n) r := by
  by_cases h : c
  · exact Ev.pos h (h1 h)
  · exact Ev.neg h (h2 h)
theorem Ev.cast {α : Type} {g : Nat → Option α} {r r' : α} (k : Ev g r) (h : r = r') : Ev g r' := h ▸ k
theorem wrap_id {i : Int} (h1 : -9223372036854775808 ≤ i) (h2 : i ≤ 9223372036854775807) : wrap64 i = i := by
  unfold wrap64
  omega
theorem wrap_succ {i n : Nat} (h : i < n) (hn : n ≤ 9223372036854775807) : wrap64 ((i : Int) + 1) = ((i + 1 : Nat) : Int) := by
  rw [wrap_id (by omega) (by omega)]
  omega
theorem wf_range {n : Int} (h : (Lit.int .i64 n).wf = true) : -9223372036854775808 ≤ n ∧ n ≤ 9223372036854775807 := by
  have h1 : (decide (IntKind.i64.min ≤ n) && decide (n ≤ IntKind.i64.max)) = true := h
  have e1 : IntKind.i64.min = -9223372036854775808 := by decide +kernel
  have e2 : IntKind.i64.max = 9223372036854775807 := by decide +kernel
  rw [Bool.and_eq_true, decide_eq_true_iff, decide_eq_true_iff, e1, e2] at h1
  exact h1
end Go.Proofs.YtmikdofplolmjaaGreatDoorW.PrintWords
end
section
namespace Go.Proofs.YtmikdofplolmjaaGreatDoor.NuW
open Go.RowKit Go.Proofs.YtmikdofplolmjaaGreatDoorW.PrintWords Go.Proofs.YtmikdofplolmjaaGreatDoorW.PrintLast Go.Proofs.YtmikdofplolmjaaGreatDoor.X Go.Proofs.YtmikdofplolmjaaGreatDoor.Fl
set_option linter.unusedVariables false
set_option linter.unusedSimpArgs false
theorem neq_self' (b : Nat) : (FloatKind.f64.format.order b b != some .eq) = isN b := neq_self b
theorem isnan_any (b : Nat) (v : Bool) (w : World) (hv : isN b = v) : Calls Tryz.prog 26 #[.float .f64 b] w fun e w' => e = .returned (.bool v) ∧ w = w' := by
  have h := neq_self' b
  rw [hv] at h
  clear hv
  go_enter Tryz.func26, Tryz.ntmps26
  go_wp2
  go_ret
  exact ⟨rfl, rfl⟩
theorem run_from (n : Nat) (w : World) : (callFunc 24 #[.int .u64 (n : Int)]).run Tryz.prog w = .ok (.value (.float .f64 n)) w := by kernel_rfl
theorem run_bits (n : Nat) (w : World) : (callFunc 23 #[.float .f64 n]).run Tryz.prog w = .ok (.value (.int .u64 (n : Int))) w := by kernel_rfl
theorem run_from2 (n : Nat) (w : World) : (callFunc 78 #[.int .u64 (n : Int)]).run Tryz.prog w = .ok (.value (.float .f64 n)) w := by kernel_rfl
attribute [local go_sem] run_from run_bits run_from2
theorem norm_ok {n : Nat} (h : isN n = false) : norm n = n := by unfold norm; rw [h]; rfl
theorem norm_nan' {n : Nat} (h : isN n = true) : norm n = nanB := by unfold norm; rw [h]; rfl
set_option maxRecDepth 100000 in
theorem norm_any (n : Nat) (w : World) : Calls Tryz.prog 22 #[.int .u64 (n : Int)] w fun e w' => e = .returned (.int .u64 (norm n : Int)) ∧ w = w' := by
  obtain ⟨V, hV⟩ : ∃ V, V = Value.int .u64 (norm n : Int) := ⟨_, rfl⟩
  rw [← hV]
  have HV := Lib.hid hV
  clear hV
  cases hn : isN n
  · have HN := Lib.hid hn
    clear hn
    go_enter Tryz.func22, Tryz.ntmps22
    go_wp2_with (first | (go_at_call 26; (with_reducible refine (isnan_any _ false _ HN.out).mono ?_); rintro e w1 ⟨rfl, rfl⟩))
    go_ret
    exact ⟨by rw [HV.out, norm_ok HN.out]; rfl, rfl⟩
  · have HN := Lib.hid hn
    clear hn
    go_enter Tryz.func22, Tryz.ntmps22
    go_wp2_with (first | (go_at_call 26; (with_reducible refine (isnan_any _ true _ HN.out).mono ?_); rintro e w1 ⟨rfl, rfl⟩))
    go_ret
    exact ⟨by rw [HV.out, norm_nan' HN.out]; rfl, rfl⟩
end Go.Proofs.YtmikdofplolmjaaGreatDoor.NuW
end
