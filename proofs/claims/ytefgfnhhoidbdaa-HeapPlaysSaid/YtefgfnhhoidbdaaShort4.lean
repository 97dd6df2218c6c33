/- Short forms of the steps of a wide region whose table is reckoned, not printed; no condition. -/
import Derived.Test.YtefgfnhhoidbdaaShort3
namespace Go.Proofs.YtefgfnhhoidbdaaW.PrintWords
open Go.RowKit Go.Proofs.YtefgfnhhoidbdaaW.PrintLast
section
variable {P : Program} {ops : Array Oper} {Q : Exit → Act → World → Prop} {md : Region.Mode} {S : World → Prop} {ds : List Nat} {T : Bool × List (List Nat × List Nat)} {oi : Oper} {v : Value} {fuel : Nat} {l l' : Array Bool} {a a' : Act} {w : World}
theorem tT (i : Nat) (t : Tmp) (hT : Aside0 (rtab md ops = T)) (hS : S w) (h : wpAnyLast P md ops Q S ds fuel l' a' w) (hi : ops[i]? = some oi := by rfl) (hN : oi.dst = some t := by rfl)
    (hl : l.setIfInBounds i true = l' := by (simp only [List.setIfInBounds_toArray, List.set_cons_zero, List.set_cons_succ]; first | done | rfl)) (hc : takeT T ds l.toList l'.toList i = true := by kernel_rfl) (hQ : ∀ c a w, Q (.panic c) (a.put oi.dst v) w → Q (.panic c) a w := by exact fun _ _ _ h => h)
    (hw : Region.wanted oi (yielded ops a.tmps) = true := by rfl) (hy : ∀ w', S w' → (execOp a.eval oi).run P w' = .ok (.value v) w' := by (intro w' hs_; (repeat (obtain ⟨_, hs_⟩ := hs_)); go_simp; first | done | with_reducible rfl))
    (ha : a.put (some t) v = a' := by (simp only [Act.put, List.setIfInBounds_toArray, List.set_cons_zero, List.set_cons_succ, i64_w, i32_w]; first | done | rfl)) : wpAnyLast P md ops Q S ds (fuel + 1) l a w := by
  subst hl
  exact take_ _ hi hN (take_of hT.out hc) hQ (Or.inl ⟨hw, hy⟩) hS ha h
theorem lS {N : Option Tmp} (i : Nat) (hT : Aside0 (rtab md ops = T)) (h : ∀ K : Act → World → Prop, Shut (∀ a' w', wpAnyLast P md ops Q S ds fuel l' a' w' → K a' w') → if Region.wanted oi (yielded ops a.tmps) = true then Oper.wp P oi a w K Q else K (a.put N undef) w)
    (hi : ops[i]? = some oi := by rfl) (hN : oi.dst = N := by rfl) (hl : l.setIfInBounds i true = l' := by (simp only [List.setIfInBounds_toArray, List.set_cons_zero, List.set_cons_succ]; first | done | rfl))
    (hc : (readyT T.2 l.toList == [i] && l.toList.set i true == l'.toList) = true := by kernel_rfl) (hd : i ∈ ds := by decide) : wpAnyLast P md ops Q S ds (fuel + 1) l a w := by
  subst hl
  exact last_ _ hi hN (one_of hT.out hc) hd h
end
end Go.Proofs.YtefgfnhhoidbdaaW.PrintWords
