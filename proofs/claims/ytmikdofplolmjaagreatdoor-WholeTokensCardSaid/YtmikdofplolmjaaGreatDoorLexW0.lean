/- What a text's reader is in memory, and what is left alone beside it; no condition. -/
import Derived.Test.YtmikdofplolmjaaGreatDoorProg
import Derived.Test.YtmikdofplolmjaaGreatDoorShort
import Derived.Test.YtmikdofplolmjaaGreatDoorShelf
import Derived.Test.YtmikdofplolmjaaGreatDoorLexTheory3
import Derived.Lib.Hide
import Derived.Deep.LoopGhost
import Derived.Deep.QuietTactic
import Derived.BigQuiet
namespace Go.Proofs.YtmikdofplolmjaaGreatDoor.LexW
open Go.RowKit Go.Shelf Go.Proofs.YtmikdofplolmjaaGreatDoorW.PrintWords Go.Proofs.YtmikdofplolmjaaGreatDoor.Lx
set_option linter.unusedVariables false
set_option linter.unusedSimpArgs false

/-- A reader: its text, how far it is, its list. -/
def Rd (g : Nat) (s : ByteArray) (i : Int) (lv : Value) (w : World) : Prop := w.heap[g]? = some (.cells #[.string s, .int .i64 i, lv] 52 (0, 0))
/-- Nothing but block g is another one. -/
structure Only (g : Nat) (w w' : World) : Prop where
  below : Below g w w'
  size : w'.heap.size = w.heap.size
  rest : ∀ i, i ≠ g → w'.heap[i]? = w.heap[i]?
theorem Only.refl (g : Nat) (w : World) : Only g w w := ⟨Below.refl _ _, rfl, fun _ _ => rfl⟩
theorem Only.trans {g : Nat} {a b c : World} (h : Only g a b) (k : Only g b c) : Only g a c := ⟨h.below.trans k.below, k.size.trans h.size, fun i hi => (k.rest i hi).trans (h.rest i hi)⟩
theorem heap_drewN (w : World) : ∀ n, (w.drewN n).heap = w.heap := fun n => by
  induction n with
  | zero => rfl
  | succ n ih => exact ih
theorem Only.drewN {g : Nat} {a b : World} (h : Only g a b) (n : Nat) : Only g a (b.drewN n) := h.trans ⟨pw_below_drewN (Below.refl _ _) n, by rw [heap_drewN], fun i _ => by rw [heap_drewN]⟩
theorem Only.put {g : Nat} {a b : World} (h : Only g a b) (j : Nat) (v : Value) : Only g a (b.setCell ⟨g, j, none⟩ v) :=
  h.trans ⟨(Below.refl _ _).setCell (p := ⟨g, j, none⟩) (Nat.le_refl _) _, by simp [World.setCell], fun i hi => Below.heap_setCell _ ⟨g, j, none⟩ _ _ hi⟩
theorem Only.to {B g : Nat} {a b : World} (h : Only g a b) (hB : B ≤ g) : Below B a b := h.below.mono hB
theorem Rd.drewN {g : Nat} {s : ByteArray} {i : Int} {lv : Value} {w : World} (h : Rd g s i lv w) (n : Nat) : Rd g s i lv (w.drewN n) := by unfold Rd; rw [heap_drewN]; exact h
theorem Rd.at {g : Nat} {s : ByteArray} {i : Int} {lv : Value} {w : World} (h : Rd g s i lv w) : w.cell? ⟨g, 0, none⟩ = some (.string s) ∧ w.cell? ⟨g, 1, none⟩ = some (.int .i64 i) ∧ w.cell? ⟨g, 2, none⟩ = some lv ∧ w.frozen? ⟨g, 0, none⟩ = false ∧ w.frozen? ⟨g, 1, none⟩ = false ∧ w.frozen? ⟨g, 2, none⟩ = false :=
  ⟨(blk_cell h 0).trans rfl, (blk_cell h 1).trans rfl, (blk_cell h 2).trans rfl, blk_frozen h 0, blk_frozen h 1, blk_frozen h 2⟩
theorem Rd.put {g : Nat} {s : ByteArray} {i : Int} {lv : Value} {w : World} (h : Rd g s i lv w) (j : Int) : Rd g s j lv (w.setCell ⟨g, 1, none⟩ (.int .i64 j)) := blk_put (cs := #[.string s, .int .i64 i, lv]) h 1 _ rfl
theorem Rd.lt {g : Nat} {s : ByteArray} {i : Int} {lv : Value} {w : World} (h : Rd g s i lv w) : g < w.heap.size := (Array.getElem?_eq_some_iff.1 h).1
/-- A callee that draws nothing, behind draws. -/
theorem quiet_more {P : Program} {f : FuncId} {args : Array Value} {w : World} {a n : Nat} {v : Value}
    (h : Calls P f args (w.drewN (a + n)) fun e w' => e = .returned v ∧ w' = w.drewN (a + n)) : Calls P f args (w.drewN (a + n)) fun e w'' => e = .returned v ∧ ∃ m, w'' = w.drewN (a + m) :=
  h.mono fun _ _ ⟨he, hm⟩ => ⟨he, n, hm⟩
end Go.Proofs.YtmikdofplolmjaaGreatDoor.LexW
