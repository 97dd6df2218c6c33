/- Two texts as one: Join. -/
import Derived.Test.YtefgfnhhoidbdaaHeapW8
namespace Go.Proofs.Ytefgfnhhoidbdaa.HpW
open Go.RowKit Go.Proofs.YtefgfnhhoidbdaaW.PrintWords Go.Proofs.YtefgfnhhoidbdaaW.PrintLast Go.Proofs.Ytefgfnhhoidbdaa.H
set_option linter.unusedVariables false
set_option linter.unusedSimpArgs false
/-- Two texts as one, and an error's number. -/
def joinV (a b : ByteArray) : ByteArray × Int := if a.size + b.size ≤ 1024 then (a ++ b, 0) else (⟨#[]⟩, 2)
set_option maxHeartbeats 8000000 in
set_option maxRecDepth 100000 in
theorem join_any (a b : ByteArray) (w : World) (ha : a.size ≤ 100000) (hb : b.size ≤ 100000) : Calls Try.prog 36 #[.string a, .string b] w fun e w' => e = .returned (.tuple #[.string (joinV a b).1, .int .i64 (joinV a b).2]) ∧ Below w.heap.size w w' := by
  have HB := Aside0.mk (Below.refl w.heap.size w)
  have hw : wrap64 (1024 - (a.size : Int)) = 1024 - (a.size : Int) := wrap_id (by omega) (by omega)
  by_cases h1 : (a.size : Int) > 1024
  · have k1 : decide (1024 < (a.size : Int)) = true := decide_eq_true h1
    have k2 : decide (1024 < a.size) = true := decide_eq_true (by omega)
    have e : joinV a b = (⟨#[]⟩, 2) := by unfold joinV; rw [if_neg (by omega)]
    rw [e]
    clear e hw
    go_enter Try.func36, Try.ntmps36
    go_wp2
    go_ret2
    exact ⟨rfl, pxb HB⟩
  · have k1 : decide (1024 < (a.size : Int)) = false := decide_eq_false h1
    have k2 : decide (1024 < a.size) = false := decide_eq_false (by omega)
    by_cases h2 : (b.size : Int) > 1024 - (a.size : Int)
    · have k3 : decide (wrap64 (1024 - (a.size : Int)) < (b.size : Int)) = true := decide_eq_true (by rw [hw]; exact h2)
      have e : joinV a b = (⟨#[]⟩, 2) := by unfold joinV; rw [if_neg (by omega)]
      rw [e]
      clear e hw
      go_enter Try.func36, Try.ntmps36
      go_wp2
      go_ret2
      exact ⟨rfl, pxb HB⟩
    · have k3 : decide (wrap64 (1024 - (a.size : Int)) < (b.size : Int)) = false := decide_eq_false (by rw [hw]; exact h2)
      have e : joinV a b = (a ++ b, 0) := by unfold joinV; rw [if_pos (by omega)]
      have k4 : (a.size + b.size ≤ 9223372036854775807) = True := eq_true (by omega)
      rw [e]
      clear e hw
      go_enter Try.func36, Try.ntmps36
      go_wp2
      go_ret2
      exact ⟨rfl, pxb HB⟩
end Go.Proofs.Ytefgfnhhoidbdaa.HpW
