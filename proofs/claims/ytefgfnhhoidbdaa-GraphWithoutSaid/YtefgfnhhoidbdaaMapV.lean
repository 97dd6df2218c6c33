/- A map of a call's own whose keys are whole numbers, told by what each key holds; no condition beyond those named. -/
import Derived.Maps.OwnSet
import Derived.WalkKit
import Derived.Below
namespace Go.Proofs.Ytefgfnhhoidbdaa.MapV
open Go Go.RowKit Go.Maps
set_option linter.unusedVariables false
set_option linter.unusedSimpArgs false
/-- What lies there reads as itself. -/
def RV (v : Value) : Option (DataW Value × List MemPlace) := some (.held v, [])
/-- Block b is a map of at most n entries; key i holds f i. -/
def Is (P : Program) (k : TypeId) (b n : Nat) (z : Value) (f : Int → Value) (W : World) : Prop := ∃ D : DataW Value, W.ownsMap P k RV b n D ∧ IsMap D ∧ ∀ i : Int, (Lit.int .i64 i).wf = true → D.atKey (.int .i64 i) (.held z) = .held (f i)
theorem made (W : World) (P : Program) (k : TypeId) (z : Value) : Is P k W.heap.size 0 z (fun _ => z) (W.alloc (.map #[] 0)) := ⟨.map [], World.ownsMap_made W P k RV, isMap_empty, fun _ _ => rfl⟩
section
variable {P : Program} {k t e : TypeId} {b n : Nat} {z : Value} {f : Int → Value} {W W' : World}
theorem Is.lt (h : Is P k b n z f W) : b < W.heap.size := by obtain ⟨D, h, _⟩ := h; exact h.lt
theorem Is.step (h : Is P k b n z f W) (hm : W'.heap[b]? = W.heap[b]?) : Is P k b n z f W' := by
  obtain ⟨D, ⟨es, clock, hb, F, hs, hD⟩, h2, h3⟩ := h
  exact ⟨D, ⟨es, clock, hm.trans hb, F, hs, hD⟩, h2, h3⟩
theorem Is.below (h : Is P k b n z f W) (hb : Below W.heap.size W W') : Is P k b n z f W' := h.step (hb.block b h.lt)
theorem Is.block (h : Is P k b n z f W) : ∃ es c, W.heap[b]? = some (.map es c) := by
  obtain ⟨D, ⟨es, clock, hb, _⟩, _⟩ := h
  exact ⟨es, clock, hb⟩
theorem Is.look (h : Is P k b n z f W) (K : Keyed P k) (hk : P.underlying k = some (.int .i64)) (ht : P.underlying t = some (.map k e)) (hz : (zeroValue e).run P W = .ok z W) (i : Int) (hi : (Lit.int .i64 i).wf = true) : (Instr.lookup t (.map (some b)) (.int .i64 i) false).run P W = .ok (f i) W := by
  obtain ⟨D, h1, h2, h3⟩ := h
  obtain ⟨v, ps, hr, hv⟩ := h1.lookup K ht hz (show RV z = some (.held z, []) from rfl) (keyOf_int_mk hk hi)
  rw [h3 i hi] at hv
  have : v = f i := by
    unfold RV at hv
    simp only [Option.some.injEq, Prod.mk.injEq, DataW.held.injEq] at hv
    exact hv.1
  rw [this] at hr
  exact hr
theorem Is.put (h : Is P k b n z f W) (K : Keyed P k) (hk : P.underlying k = some (.int .i64)) (ht : P.underlying t = some (.map k e)) (hn : n < maxLen) (i : Int) (hi : (Lit.int .i64 i).wf = true) (v : Value) :
    ∃ W', (Instr.mapUpdate t (.map (some b)) (.int .i64 i) v).run P W = .ok () W' ∧ Is P k b (n + 1) z (fun j => if j = i then v else f j) W' ∧ W.grownBy W' (some b) := by
  obtain ⟨D, h1, h2, h3⟩ := h
  obtain ⟨W', r1, r2, r3⟩ := h1.update K ht hn (keyOf_int_mk hk hi) (show RV v = some (.held v, []) from rfl)
  refine ⟨W', r1, ⟨_, r2, h2.put _ _, fun j hj => ?_⟩, r3⟩
  show _ = DataW.held (if j = i then v else f j)
  by_cases e : j = i
  · subst e
    rw [if_pos rfl, atKey_put_same h2 (by trivial)]
  · rw [if_neg e, atKey_put_other (by intro h; injection h with _ h; exact e h), h3 j hj]
end
end Go.Proofs.Ytefgfnhhoidbdaa.MapV
