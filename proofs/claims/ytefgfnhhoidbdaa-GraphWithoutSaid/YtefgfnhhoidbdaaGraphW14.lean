/- Right, whatever set is handed in. -/
import Derived.Test.YtefgfnhhoidbdaaGraphW13
namespace Go.Proofs.Ytefgfnhhoidbdaa.GrW
open Go.RowKit Go.Proofs.YtefgfnhhoidbdaaW.PrintWords Go.Proofs.YtefgfnhhoidbdaaW.PrintLast Go.Proofs.Ytefgfnhhoidbdaa.X Go.Proofs.Ytefgfnhhoidbdaa.Gr
theorem right_any {g B n : Nat} {es : List S29} {O : Nat → Prop} (A0 : Option Addr) (c0 : Nat) (set : List Bool) (w : World) (h : G g B n es O w) (hC : Kd.C Kd.bool w A0 set.length set) : Calls Try.prog 18 #[.pointer (some ⟨g, 0, none⟩), .slice A0 set.length c0] w fun e w' => e = .returned (.bool (rightV n es set)) ∧ Below w.heap.size w w' := by
  by_cases hl : set.length = n
  · exact right_walk A0 c0 set w h hC hl
  · exact right_len A0 c0 set w h hC hl
theorem right_nil {n : Nat} {es : List S29} (hv : ∀ k, k < es.length → -1 ≤ Fm es k ∧ Fm es k < n ∧ 0 ≤ Tm es k ∧ Tm es k < n) : rightV n es [] = (decide (n = 0) && decide (es.length = 0)) := by
  unfold rightV
  by_cases hn : n = 0
  · subst hn
    have he : es = [] := by
      cases es with
      | nil => rfl
      | cons e es =>
        have := hv 0 (by simp)
        omega
    subst he
    rfl
  · rw [decide_eq_false (fun e => hn e.symm), decide_eq_false hn, Bool.false_and, Bool.false_and]
end Go.Proofs.Ytefgfnhhoidbdaa.GrW
