/- A strings.Builder's WriteByte over this program: the byte stands behind what was; under the length that Go allows. -/
import Derived.Test.YtmikdofplolmjaaGreatDoorBld
namespace Go.Proofs.YtmikdofplolmjaaGreatDoor.BldByte
open Go.RowKit Go.Shelf Go.Proofs.YtmikdofplolmjaaGreatDoor.Bld
set_option linter.unusedVariables false
set_option linter.unusedSimpArgs false
set_option maxHeartbeats 2000000 in
set_option maxRecDepth 100000 in
theorem WriteByte (B b : Nat) (bs : List Value) (c : Int) (w : World) (h : Lib.IsBuilder 67 5 B b bs w) (hlen : bs.length + 1 ≤ 140737488355328) (hBw : B ≤ w.heap.size) :
    Calls Tryz.prog 28 #[.pointer (some ⟨b, 0, none⟩), .int .u8 c] w fun e w' => e = .returned .nilIface ∧ (Lib.BuilderAt 67 5 B b (.pointer (some ⟨b, 0, none⟩)) (bs ++ [.int .u8 c]) w' ∧ Below B w w' ∧ Fr b w w') := by
  obtain ⟨i0, hi, hz0, hz1, hz2⟩ := info_parts infoByte
  go_enter Tryz.func28, Tryz.ntmps28
  go_wp2_with fail
  refine (copyCheck B b bs _ h).mono ?_
  rintro e w1 ⟨rfl, h1, hb1, hs1⟩
  obtain ⟨hB, v, hbk, hown, hne⟩ := h1
  have c0 : w1.cell? ⟨b, 0, none⟩ = some (.pointer (some ⟨b, 0, none⟩)) := by rw [Lib.cell_of_heap hbk]; rfl
  have c1 : w1.cell? ⟨b, 1, none⟩ = some v := by rw [Lib.cell_of_heap hbk]; rfl
  go_wp2_with (at_builtin; refine wpList_append_own _ rfl _ _ 65 rfl B 5 i0 (.int .u8 0) 1 1 Tryz.underlying65 hi hz0 hz1 hz2 rfl (by decide) _ _ _ rfl (hown.alloc _) ⟨w1.heap.size, 0, none⟩ 1 1 [.int .u8 c] rfl rfl ?c1 ?c2 ?c3 ?c4 ?c5 ?_)
  case c1 =>
    intro j u hj
    match j, hj with
    | 0, hj => simp at hj; subst hj; simp [Addr.add]
  case c2 => intro u hu; simp at hu; subst hu; rfl
  case c3 => unfold maxLen; omega
  case c4 => omega
  case c5 => have := hb1.size; simp; omega
  intro v' w2 hown' hgrow _
  have hlt : b < w1.heap.size := by
    rcases Nat.lt_or_ge b w1.heap.size with h' | h'
    · exact h'
    · simp [Array.getElem?_eq_none h'] at hbk
  have hb2 : w2.heap[b]? = some (.cells #[.pointer (some ⟨b, 0, none⟩), v] 67 (0, 0)) := by
    rw [hgrow.block b (by simp; omega) (fun e => hne e.symm), Lib.alloc_old w1 _ b hlt]
    exact hbk
  have d0 : w2.cell? ⟨b, 0, none⟩ = some (.pointer (some ⟨b, 0, none⟩)) := by rw [Lib.cell_of_heap hb2]; rfl
  have d1 : w2.cell? ⟨b, 1, none⟩ = some v := by rw [Lib.cell_of_heap hb2]; rfl
  have f1 : w2.frozen? ⟨b, 1, none⟩ = false := Lib.frozen_of_heap hb2 1
  obtain ⟨g, cap, rfl⟩ : ∃ g cap, v' = .slice (some ⟨g, 0, none⟩) (bs.length + 1) cap := by
    rcases hown'.2 with ⟨_, h0⟩ | ⟨g, cap, cur, hv, _⟩
    · omega
    · exact ⟨g, cap, hv⟩
  have hfr : ∀ (i : Nat) (cs : Array Value) (t : TypeId) (fr : Nat × Nat), t ≠ 5 → i ≠ b → w.heap[i]? = some (.cells cs t fr) → w2.heap[i]? = some (.cells cs t fr) := by
    intro i cs t fr ht hi he
    have he1 := (hs1 i hi).trans he
    have hi1 := (Array.getElem?_eq_some_iff.1 he1).1
    rw [hgrow.block i (by simp; omega) (fun ei => ?_), Lib.alloc_old w1 _ i hi1]
    · exact he1
    · rcases hown.2 with ⟨hv, _⟩ | ⟨g, cap', cur, hv, _, hh, _⟩
      · rw [hv] at ei
        simp [Value.ownBlock] at ei
      · rw [hv] at ei
        have : i = g := by simpa [Value.ownBlock] using ei
        subst this
        rw [hh] at he1
        injection he1 with he1
        injection he1 with _ ht1
        exact ht ht1.symm
  have HFR := Lib.hid hfr
  clear hfr hs1
  go_wp2
  go_ret
  refine ⟨rfl, ?_, ?_, ?_⟩
  · exact Lib.BuilderAt.put (T := 67) (e := 5) hB hb2 (bs' := bs ++ [.int .u8 c]) (by simpa using hown') (by decide)
  · exact ((hb1.alloc (by have := hb1.size; omega) _).grown hgrow (by have := hb1.size; simp; omega) (fun k hk => (hown.lt k hk).1)).setCell (p := ⟨b, 1, none⟩) hB _
  · exact fun i cs t fr ht hi he => (heap_set w2 ⟨b, 1, none⟩ _ i hi).trans (HFR.out i cs t fr ht hi he)
theorem byteCells_snoc (l : List UInt8) (c : UInt8) : Lib.byteCells l ++ [.int .u8 c.toNat] = Lib.byteCells (l ++ [c]) := by
  simp [Lib.byteCells]
end Go.Proofs.YtmikdofplolmjaaGreatDoor.BldByte
