/- An argument that is an array of two whole numbers. -/
import Derived.Test.YtbnopcndjdpnkaaDoorLawLib
namespace Go.Proofs.YtbnopcndjdpnkaaDoor.LawLib
open Go Go.RowKit Go.Lib
theorem open_pair {H : Type} {enc : TypeId × Value → H} {P : Program} {W : World} {base base' : Nat} {spare : Nat → Bool} {held : Bool} {r : Reach} {t e : TypeId} {k : IntKind} {v : Value} {D : DataW H} {ps : List MemPlace}
    (ht : P.underlying t = some (.array 2 e)) (he : P.underlying e = some (.int k)) (hce : P.cellsOf e = 1) (hct : P.cellsOf t = 2) (hval : Value.okWide P W r base t v) (hd : DataW.Trod enc P W base' spare held t v D ps) :
    ∃ a b : Int, v = .agg #[.int k a, .int k b] ∧ (Lit.int k a).wf = true ∧ (Lit.int k b).wf = true := by
  unfold Value.okWide at hval
  rw [ht] at hval
  obtain ⟨cs, rfl, hs, _⟩ := hval
  obtain ⟨fuel, hf⟩ := hd
  rw [hct] at hs
  obtain ⟨l⟩ := cs
  cases fuel with
  | zero => simp [DataW.trod] at hf
  | succ fuel =>
    simp only [DataW.trod, ht, hce, hct, Nat.mul_one, Value.cells] at hf
    split at hf
    · obtain ⟨xs, hm, hx⟩ := Option.map_eq_some_iff.1 hf
      obtain ⟨b0, _, h0⟩ := mapM_at hm 0 0 rfl
      obtain ⟨b1, _, h1⟩ := mapM_at hm 1 1 rfl
      obtain ⟨z0, e0, _, w0⟩ := DataW.trod_int he h0
      obtain ⟨z1, e1, _, w1⟩ := DataW.trod_int he h1
      match l, hs with
      | [c0, c1], _ =>
        simp at e0 e1
        exact ⟨z0, z1, by rw [e0, e1], w0, w1⟩
    · cases hf
end Go.Proofs.YtbnopcndjdpnkaaDoor.LawLib
