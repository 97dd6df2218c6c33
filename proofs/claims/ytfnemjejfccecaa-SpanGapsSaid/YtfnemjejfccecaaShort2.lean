/- More short forms of steps that the printed walks make often: a block of one's own, filled cell by cell; no condition. -/
import Derived.Test.YtfnemjejfccecaaShort
namespace Go.Proofs.YtfnemjejfccecaaW.PrintWords
open Go.RowKit
/-- What is in a block behind draws, new blocks and stores into it. -/
def Filled (g : Nat) (W0 : World) (o0 : Obj) (W : World) (o : Obj) : Prop := W0.heap[g]? = some o0 → W.heap[g]? = some o
theorem Filled.refl (g : Nat) (W : World) (o : Obj) : Filled g W o W o := fun h => h
theorem Filled.drewN {g : Nat} {W0 W : World} {o0 o : Obj} (h : Filled g W0 o0 W o) (n : Nat) : Filled g W0 o0 (W.drewN n) o := fun h0 => blk_drewN (h h0) n
theorem Filled.drew {g : Nat} {W0 W : World} {o0 o : Obj} (h : Filled g W0 o0 W o) : Filled g W0 o0 W.drew o := fun h0 => blk_drew (h h0)
theorem Filled.alloc {g : Nat} {W0 W : World} {o0 o : Obj} (h : Filled g W0 o0 W o) (o' : Obj) : Filled g W0 o0 (W.alloc o') o := fun h0 => blk_alloc (h h0) o'
theorem Filled.put {g : Nat} {W0 W : World} {o0 : Obj} {t : TypeId} {cs cs' : Array Value} {i : Nat} {u : Value} (h : Filled g W0 o0 W (.cells cs t (0, 0))) (e : cs.setIfInBounds i u = cs') : Filled g W0 o0 (W.setCell ⟨g, i, none⟩ u) (.cells cs' t (0, 0)) := fun h0 => blk_put (h h0) i u e
theorem pxp {W0 W : World} {g : Nat} {o0 o : Obj} (h : Aside0 (W0.heap[g]? = some o0)) (hs : Filled g W0 o0 W o := by (with_reducible repeat (first | exact Filled.refl _ _ _ | refine Filled.drewN ?_ _ | refine Filled.drew ?_ | refine Filled.alloc ?_ _ | apply Filled.put)) <;> rfl) : W.heap[g]? = some o := hs h.out
/-- The heap only grows. -/
def Longer (W0 W : World) : Prop := W0.heap.size ≤ W.heap.size
theorem Longer.refl (W : World) : Longer W W := Nat.le_refl _
theorem Longer.drewN {W0 W : World} (h : Longer W0 W) (n : Nat) : Longer W0 (W.drewN n) := h
theorem Longer.drew {W0 W : World} (h : Longer W0 W) : Longer W0 W.drew := h
theorem Longer.alloc {W0 W : World} (h : Longer W0 W) (o : Obj) : Longer W0 (W.alloc o) := Nat.le_trans h (by unfold World.alloc; simp)
theorem Longer.set {W0 W : World} (h : Longer W0 W) (p : Addr) (v : Value) : Longer W0 (W.setCell p v) := Nat.le_trans h (Nat.le_of_eq (by unfold World.setCell; split <;> simp))
theorem pxn {W0 W : World} {g0 g : Nat} {o0 : Obj} (h : Aside0 (W0.heap[g0]? = some o0)) (hg : g = W.heap.size) (hs : Longer W0 W := by (with_reducible repeat (first | exact Longer.refl _ | refine Longer.drewN ?_ _ | refine Longer.drew ?_ | refine Longer.alloc ?_ _ | refine Longer.set ?_ _ _))) : Aside0 (g0 ≠ g) := ⟨by rw [hg]; exact Nat.ne_of_lt (Nat.lt_of_lt_of_le (blk_lt h.out) hs)⟩
theorem pxw {w W0 W : World} {g : Nat} (h : Aside0 (Below w.heap.size w W0)) (hg : g = W.heap.size) (hs : LB w W0 W := by (with_reducible repeat (first | exact LB.refl _ _ | refine LB.drewN ?_ _ | refine LB.drew ?_ | refine LB.alloc ?_ _ | refine LB.set ?_ (by assumption)))) : Aside0 (w.heap.size ≤ g) := ⟨by rw [hg]; exact below_size (hs h.out)⟩
theorem pxd {p : Prop} [Decidable p] (h : decide p = true := by first | (with_reducible assumption) | assumption) : p := of_decide_eq_true h
end Go.Proofs.YtfnemjejfccecaaW.PrintWords
