/- Short forms of steps that the printed walks make often: nothing but draws and new blocks lies between two worlds; no condition. -/
import Derived.Test.YtefgfnhhoidbdaaWa
import Derived.Lib.SliceRun
namespace Go.Proofs.YtefgfnhhoidbdaaW.PrintWords
open Go.RowKit
/-- What lay in the one world's blocks lies in the other's. -/
def Later (W0 W : World) : Prop := ∀ (g : Nat) (o : Obj), W0.heap[g]? = some o → W.heap[g]? = some o
theorem Later.refl (W : World) : Later W W := fun _ _ h => h
theorem Later.drewN {W0 W : World} (h : Later W0 W) (n : Nat) : Later W0 (W.drewN n) := fun g o hg => blk_drewN (h g o hg) n
theorem Later.drew {W0 W : World} (h : Later W0 W) : Later W0 W.drew := fun g o hg => blk_drew (h g o hg)
theorem Later.alloc {W0 W : World} (h : Later W0 W) (o' : Obj) : Later W0 (W.alloc o') := fun g o hg => blk_alloc (h g o hg) o'
theorem pxk {W0 W W' : World} {g : Nat} {o : Obj} (h : Aside0 (W0.heap[g]? = some o)) (hb : Below W.heap.size W W') (hs : Later W0 W := by (with_reducible repeat (first | refine Later.drewN ?_ _ | refine Later.drew ?_ | refine Later.alloc ?_ _)); exact Later.refl _) : Aside0 (W'.heap[g]? = some o) := ⟨blk_below (hs g o h.out) hb⟩
/-- What had been left alone is left alone still. -/
def LB (w W0 W : World) : Prop := Below w.heap.size w W0 → Below w.heap.size w W
theorem LB.refl (w W : World) : LB w W W := fun h => h
theorem LB.drewN {w W0 W : World} (h : LB w W0 W) (n : Nat) : LB w W0 (W.drewN n) := fun h0 => pw_below_drewN (h h0) n
theorem LB.drew {w W0 W : World} (h : LB w W0 W) : LB w W0 W.drew := fun h0 => below_drew1 (h h0)
theorem LB.alloc {w W0 W : World} (h : LB w W0 W) (o : Obj) : LB w W0 (W.alloc o) := fun h0 => below_alloc (h h0) o
theorem LB.set {w W0 W : World} {g j : Nat} {v : Value} (h : LB w W0 W) (hg : Aside0 (w.heap.size ≤ g)) : LB w W0 (W.setCell ⟨g, j, none⟩ v) := fun h0 => below_set (h h0) hg.out
theorem pxs {w W0 W W' : World} (h : Aside0 (Below w.heap.size w W0)) (hb : Below W.heap.size W W') (hs : LB w W0 W := by (with_reducible repeat (first | exact LB.refl _ _ | refine LB.drewN ?_ _ | refine LB.drew ?_ | refine LB.alloc ?_ _ | refine LB.set ?_ (by assumption)))) : Aside0 (Below w.heap.size w W') := ⟨below_step (hs h.out) hb⟩
theorem pxb {w W0 W : World} (h : Aside0 (Below w.heap.size w W0)) (hs : LB w W0 W := by (with_reducible repeat (first | exact LB.refl _ _ | refine LB.drewN ?_ _ | refine LB.drew ?_ | refine LB.alloc ?_ _ | refine LB.set ?_ (by assumption)))) : Below w.heap.size w W := hs h.out
theorem pxq {W0 W : World} {g : Nat} {o : Obj} (h : Aside0 (W0.heap[g]? = some o)) (hs : Later W0 W := by (with_reducible repeat (first | refine Later.drewN ?_ _ | refine Later.drew ?_ | refine Later.alloc ?_ _)); exact Later.refl _) : W.heap[g]? = some o := hs g o h.out
theorem pxr {α : Type} {d : Kd α} {e : Nat} {W0 W : World} {base : Nat} {ok : Nat → Prop} {v : Value} {xs : List α} (h : Aside0 (Kd.R d e W0 base ok v xs)) (hs : Below W0.heap.size W0 W := by (with_reducible repeat (first | exact Below.refl _ _ | refine below_alloc ?_ _ | refine pw_below_drewN ?_ _ | refine below_drew1 ?_))) : Kd.R d e W base ok v xs := Kd.R_below h.out hs
theorem pxc {α : Type} {d : Kd α} {w W0 W : World} {A : Option Addr} {n : Nat} {xs : List α} (h : Aside0 (Kd.C d w A n xs)) (hb : Aside0 (Below w.heap.size w W0)) (hs : LB w W0 W := by (with_reducible repeat (first | exact LB.refl _ _ | refine LB.drewN ?_ _ | refine LB.drew ?_ | refine LB.alloc ?_ _ | refine LB.set ?_ (by assumption)))) : Kd.C d W A n xs := Kd.C_below h.out (hs hb.out)
theorem pxne {α : Type} {d : Kd α} {e g : Nat} {W : World} {base : Nat} {ok : Nat → Prop} {v : Value} {xs : List α} (h : Aside0 (Kd.R d e W base ok v xs)) (hok : ∀ k_, ok k_ → k_ ≠ g := by intro k_ hk_; first | exact hk_ | exact hk_.1 | exact hk_.2 | exact hk_.2.1 | exact hk_.2.2 | exact hk_.1.1 | exact hk_.1.2) : some g ≠ v.ownBlock := fun e_ => hok g (h.out.1 g e_.symm) rfl
end Go.Proofs.YtefgfnhhoidbdaaW.PrintWords
