/- Short steps for what a function with a number of rounds answers in the end; no condition. -/
import Derived.Test.YtefgfnhhoidbdaaShort
namespace Go.Proofs.YtefgfnhhoidbdaaW.PrintWords
open Go.RowKit
theorem Ev.eq {α : Type} {x : Option α} {r : α} (h : x = some r) : Ev (fun _ => x) r := ⟨0, fun _ _ => h⟩
theorem Ev.pos {α : Type} {c : Prop} [Decidable c] {a b : Nat → Option α} {r : α} (h : c) (k : Ev a r) : Ev (fun n => if c then a n else b n) r := by simpa only [if_pos h] using k
theorem Ev.neg {α : Type} {c : Prop} [Decidable c] {a b : Nat → Option α} {r : α} (h : ¬ c) (k : Ev b r) : Ev (fun n => if c then a n else b n) r := by simpa only [if_neg h] using k
theorem Ev.ite {α : Type} {c : Prop} [Decidable c] {a b : Nat → Option α} {r : α} (h1 : c → Ev a r) (h2 : ¬ c → Ev b r) : Ev (fun n => if c then a n else b n) r := by
  by_cases h : c
  · exact Ev.pos h (h1 h)
  · exact Ev.neg h (h2 h)
theorem Ev.cast {α : Type} {g : Nat → Option α} {r r' : α} (k : Ev g r) (h : r = r') : Ev g r' := h ▸ k
theorem wrap_id {i : Int} (h1 : -9223372036854775808 ≤ i) (h2 : i ≤ 9223372036854775807) : wrap64 i = i := by
  unfold wrap64
  omega
theorem wrap_succ {i n : Nat} (h : i < n) (hn : n ≤ 9223372036854775807) : wrap64 ((i : Int) + 1) = ((i + 1 : Nat) : Int) := by
  rw [wrap_id (by omega) (by omega)]
  omega
theorem wf_range {n : Int} (h : (Lit.int .i64 n).wf = true) : -9223372036854775808 ≤ n ∧ n ≤ 9223372036854775807 := by
  have h1 : (decide (IntKind.i64.min ≤ n) && decide (n ≤ IntKind.i64.max)) = true := h
  have e1 : IntKind.i64.min = -9223372036854775808 := by decide +kernel
  have e2 : IntKind.i64.max = 9223372036854775807 := by decide +kernel
  rw [Bool.and_eq_true, decide_eq_true_iff, decide_eq_true_iff, e1, e2] at h1
  exact h1
end Go.Proofs.YtefgfnhhoidbdaaW.PrintWords
