/- Short forms of the steps of a wide region: what an operation's number tells is found, not said; no condition. -/
import Derived.Test.YtefgfnhhoidbdaaShort2
namespace Go.Proofs.YtefgfnhhoidbdaaW.PrintWords
open Go.RowKit Go.Proofs.YtefgfnhhoidbdaaW.PrintLast
section
variable {P : Program} {ops : Array Oper} {Q : Exit → Act → World → Prop} {md : Region.Mode} {S : World → Prop} {ds : List Nat} {T : Bool × List (List Nat × List Nat)} {oi : Oper} {v : Value} {fuel : Nat} {l l' : Array Bool} {a a' : Act} {w : World}
theorem pS (i : Nat) (t : Tmp) (hT : Aside0 (rtab md ops = T)) (h : wpAnyLast P md ops Q S ds fuel l' a' w) (hi : ops[i]? = some oi := by rfl) (hN : oi.dst = some t := by rfl)
    (hl : l.setIfInBounds i true = l' := by (simp only [List.setIfInBounds_toArray, List.set_cons_zero, List.set_cons_succ]; first | done | rfl)) (hc : anyT T l.toList l'.toList i = true := by kernel_rfl) (hQ : ∀ c a w, Q (.panic c) (a.put oi.dst v) w → Q (.panic c) a w := by exact fun _ _ _ h => h)
    (hw : Region.wanted oi (yielded ops a.tmps) = true := by rfl) (hy : ∀ w', (execOp a.eval oi).run P w' = .ok (.value v) w' := by (intro w'; go_simp; first | done | with_reducible rfl))
    (ha : a.put (some t) v = a' := by (simp only [Act.put, List.setIfInBounds_toArray, List.set_cons_zero, List.set_cons_succ, i64_w, i32_w]; first | done | rfl)) : wpAnyLast P md ops Q S ds (fuel + 1) l a w := by
  subst hl
  exact pure_ _ hi hN (any_of hT.out hc) hQ (Or.inl ⟨hw, hy⟩) ha h
theorem pU (i : Nat) (t : Tmp) (hT : Aside0 (rtab md ops = T)) (h : wpAnyLast P md ops Q S ds fuel l' a' w) (hi : ops[i]? = some oi := by rfl) (hN : oi.dst = some t := by rfl)
    (hl : l.setIfInBounds i true = l' := by (simp only [List.setIfInBounds_toArray, List.set_cons_zero, List.set_cons_succ]; first | done | rfl)) (hc : anyT T l.toList l'.toList i = true := by kernel_rfl) (hQ : ∀ c a w, Q (.panic c) (a.put oi.dst undef) w → Q (.panic c) a w := by exact fun _ _ _ h => h)
    (hw : Region.wanted oi (yielded ops a.tmps) = false := by rfl)
    (ha : a.put (some t) undef = a' := by (simp only [Act.put, List.setIfInBounds_toArray, List.set_cons_zero, List.set_cons_succ, i64_w, i32_w]; first | done | rfl)) : wpAnyLast P md ops Q S ds (fuel + 1) l a w := by
  subst hl
  exact pure_ _ hi hN (any_of hT.out hc) hQ (Or.inr ⟨hw, rfl⟩) ha h
theorem tS {B : List Nat} (i : Nat) (t : Tmp) (hT : Aside0 (rtab md ops = T)) (hB : Aside0 (waitsOk T.2 B = true)) (hS : S w) (h : wpAnyLast P md ops Q S ds fuel l' a' w) (hi : ops[i]? = some oi := by rfl) (hN : oi.dst = some t := by rfl)
    (hl : l.setIfInBounds i true = l' := by (simp only [List.setIfInBounds_toArray, List.set_cons_zero, List.set_cons_succ]; first | done | rfl)) (hc : takeW T B ds l.toList l'.toList i = true := by kernel_rfl) (hQ : ∀ c a w, Q (.panic c) (a.put oi.dst v) w → Q (.panic c) a w := by exact fun _ _ _ h => h)
    (hw : Region.wanted oi (yielded ops a.tmps) = true := by rfl) (hy : ∀ w', S w' → (execOp a.eval oi).run P w' = .ok (.value v) w' := by (intro w' hs_; (repeat (obtain ⟨_, hs_⟩ := hs_)); go_simp; first | done | with_reducible rfl))
    (ha : a.put (some t) v = a' := by (simp only [Act.put, List.setIfInBounds_toArray, List.set_cons_zero, List.set_cons_succ, i64_w, i32_w]; first | done | rfl)) : wpAnyLast P md ops Q S ds (fuel + 1) l a w := by
  subst hl
  exact take_ _ hi hN (take_ofW hT.out hB.out hc) hQ (Or.inl ⟨hw, hy⟩) hS ha h
theorem oS {N : Option Tmp} (i : Nat) (hT : Aside0 (rtab md ops = T)) (h : ∀ K : Act → World → Prop, Shut (∀ a' w', S w' → (S w' → wpAnyLast P md ops Q S ds fuel l' a' w') → K a' w') → if Region.wanted oi (yielded ops a.tmps) = true then Oper.wp P oi a w K Q else K (a.put N undef) w)
    (hi : ops[i]? = some oi := by rfl) (hN : oi.dst = N := by rfl) (hl : l.setIfInBounds i true = l' := by (simp only [List.setIfInBounds_toArray, List.set_cons_zero, List.set_cons_succ]; first | done | rfl))
    (hc : (readyT T.2 l.toList == [i] && l.toList.set i true == l'.toList) = true := by kernel_rfl) (hd : i ∉ ds := by decide) : wpAnyLast P md ops Q S ds (fuel + 1) l a w := by
  subst hl
  exact one_ _ hi hN (one_of hT.out hc) hd h
theorem nS (t : Tmp) (h : wpAnyLast P md ops Q S ds fuel l a' w) (ha : a.put (some t) v = a' := by (simp only [Act.put, List.setIfInBounds_toArray, List.set_cons_zero, List.set_cons_succ, i64_w, i32_w]; first | done | rfl)) : wpAnyLast P md ops Q S ds fuel l (a.put (some t) v) w := norm_ ha h
end
theorem pxo {w0 : World} {ad : Addr} {x : Value} {g : Nat} (h : w0.cell? ad = some x) (hg : Aside0 (w0.heap.size ≤ g)) : ad.block ≠ g := Nat.ne_of_lt (Nat.lt_of_lt_of_le (World.block_lt_of_cell? _ _ h) hg.out)
theorem pxo' {w0 : World} {ad : Addr} {n : Nat} {x : Value} {g : Nat} (h : w0.cell? (ad.add n) = some x) (hg : Aside0 (w0.heap.size ≤ g)) : ad.block ≠ g := by
  have := World.block_lt_of_cell? _ _ h
  rw [add_block] at this
  exact Nat.ne_of_lt (Nat.lt_of_lt_of_le this hg.out)
end Go.Proofs.YtefgfnhhoidbdaaW.PrintWords
