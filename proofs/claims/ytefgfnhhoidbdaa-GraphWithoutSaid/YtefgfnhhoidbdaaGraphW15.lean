/- GraphLeast: its main way (under way). -/
import Derived.Test.YtefgfnhhoidbdaaGraphW14
namespace Go.Proofs.Ytefgfnhhoidbdaa.GrW
open Go.RowKit Go.Proofs.YtefgfnhhoidbdaaW.PrintWords Go.Proofs.YtefgfnhhoidbdaaW.PrintLast Go.Proofs.Ytefgfnhhoidbdaa.X Go.Proofs.Ytefgfnhhoidbdaa.Gr
set_option linter.unusedVariables false
set_option linter.unusedSimpArgs false
theorem shF_nil : shF [] = fun _ => false := rfl
theorem G.val {g B n : Nat} {es : List S29} {O : Nat → Prop} {W : World} (h : G g B n es O W) : ∀ k, k < es.length → -1 ≤ Fm es k ∧ Fm es k < n ∧ 0 ≤ Tm es k ∧ Tm es k < n := by
  obtain ⟨mb, cnt, ev, f, h1, _⟩ := h
  exact h1.val
/-- The document's Solve with nothing shut. -/
theorem refsolve_any {n : Nat} {es : List S29} (A1 : Option Addr) (c1 : Nat) (w : World) (hn : n ≤ 60) (hl : es.length ≤ 150) (hv : ∀ k, k < es.length → -1 ≤ Fm es k ∧ Fm es k < n ∧ 0 ≤ Tm es k ∧ Tm es k < n) (hC : Kd.C k41 w A1 es.length (es.map to41)) (hc : es.length ≤ c1) :
    Calls Try.prog 17 #[.int .i64 (n : Int), .slice A1 es.length c1, .slice none 0 0] w fun e w' => ∃ v, e = .returned v ∧ Kd.R Kd.bool 4 w' w.heap.size (fun _ => True) v (comesL (wL n es (fun _ => false) (-1))) ∧ Below w.heap.size w w' := by
  obtain ⟨dp, hf⟩ := walkL_fin (n := n) (F := Fm es) (shut := shF []) (skip := -1) (fun k hk => (hv k hk).2.2)
  obtain ⟨k, hk⟩ := ref_solve hf hv (by simp) (by omega) (by omega)
  have hlen : (es.map to41).length = es.length := List.length_map ..
  have h := caulkerref21_Solve.calls k (n : Int) A1 c1 (es.map to41) none 0 [] _ w (by rw [hlen]; exact hC) (by rw [hlen]; exact hc) (Kd.R_reads' (Kd.R_nil (Kd.int .i64) 3 w 0 (fun _ => True))).2.2 (Nat.le_refl _) hk
  rw [hlen] at h
  exact h
end Go.Proofs.Ytefgfnhhoidbdaa.GrW
