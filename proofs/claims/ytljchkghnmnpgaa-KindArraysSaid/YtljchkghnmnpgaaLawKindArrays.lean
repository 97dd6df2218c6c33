/- The row of the law KindArrays: for every input the law's call answers true and its arguments read as they did; no condition of ours. Written by a program (px.py); over the law's Pure. -/
import Derived.Test.YtljchkghnmnpgaaRows
import Derived.Test.YtljchkghnmnpgaaX5
import Derived.Test.YtljchkghnmnpgaaPureKindArrays
import Derived.Test.YtljchkghnmnpgaaOpen
import Derived.WalkKit
import Derived.ProofKit
import Derived.OpenShut
import Derived.ShutString
import Derived.ChangeOld
import Derived.Below
import Derived.SizedLaws
namespace Go.Proofs.Ytljchkghnmnpgaa.kindArrays
open Go.ChangeShapes Go.WideShapes Go.ChangeAt Go.RowKit Go.Proofs.Ytljchkghnmnpgaa.X Go.Proofs.YtljchkghnmnpgaaW.PrintWords
open Go.ChangeMaps (open_string shut_string)
set_option linter.unusedVariables false
theorem own : ownKnob Try.prog.godebug = none := by kernel_rfl
theorem laidOut : laidOutB Try.prog = true := by kernel_rfl
theorem opens23 : Op.Opens Try.prog 23 k23 good23 := Op.Opens.iso (Op.Opens.struct (total := 4) Try.underlying23 (by kernel_rfl) (Op.Chain.cons 0 _ rfl rfl 1 (by kernel_rfl) (Op.Opens.int Try.underlying3) (Op.Chain.cons 1 _ rfl rfl 2 (by kernel_rfl) (Op.Opens.string Try.underlying9) (Op.Chain.cons 2 _ rfl rfl 3 (by kernel_rfl) (Op.Opens.int Try.underlying3) (Op.Chain.last 3 _ rfl rfl (by kernel_rfl) (Op.Opens.string Try.underlying9)))))) _ (fun p => ⟨p.1, p.2.1, p.2.2.1, p.2.2.2⟩) (fun _ => rfl)
set_option maxRecDepth 100000 in
theorem lifted (os : Os) (started : os.Started) (H : Type) (enc : TypeId × Value → H) :
    ReturnsInHanded {} Try.checked os 5 .any (Rows.kindArraysSpec.pre6 enc Try.prog Try.f5 Rows.kindArraysRow.domain false) (Rows.kindArraysSpec.post enc Try.prog Try.f5 false true false false) := by
  refine returnsInHanded_of_change_sized (C := Try.checked) own started (by kernel_rfl) Try.func5
    (ChangeSpec.witness6 (enc := enc) (C := Try.checked) false ⟨#[], #[.agg #[.int .i64 0, .string ByteArray.empty, .int .i64 0, .string ByteArray.empty]], []⟩ 8 (by kernel_rfl) (by kernel_rfl) (by kernel_rfl) (by kernel_rfl)) ?_
  intro W base args ds gs before hval0 hW hcnd hsz0 _
  have hsz : (DataW.weightsEach Try.prog (Try.f5.params.toList ++ Rows.kindArraysSpec.plain.varTypes Try.prog) (ds ++ gs)).all (· ≤ reachBytes) = true := hsz0
  have hval : ∀ (j : Nat) t v, Try.f5.params[j]? = some t → args[j]? = some v → Value.okWide Try.prog W .any base t v := hval0
  have hW' := hW
  obtain ⟨p, q, hA0, hV, rfl, hfz, hnd⟩ := hW
  have hA : DataW.TrodAll enc Try.prog W 0 (fun _ => true) true Try.f5.params.toList args.toList ds p := hA0
  rw [Try.params5] at hA hval hsz
  obtain ⟨v0, vs0, d0, ds0, p0, q0, hargs, rfl, rfl, h0, r0⟩ := trodAll_cons hA
  obtain ⟨rfl, rfl, rfl⟩ := trodAll_nil r0
  obtain rfl : args = #[v0] := by cases args; simp_all
  obtain ⟨rfl, rfl⟩ := trodVars_none hV
  have k0 := h0
  have lt0 : ∀ x ∈ p0, x.block < W.heap.size := by obtain ⟨m, hm⟩ := k0; exact DataW.trod_lt m _ _ _ hm
  obtain ⟨b0, cs0, rfl, K0, g0⟩ := Op.Opens.arg_struct Try.underlying23 opens23 (hval 0 23 v0 rfl rfl) h0
  obtain rfl := k23_open K0
  clear hA0 hval0 hsz0 hsz
  obtain ⟨k, h⟩ := Pure.KindArrays b0.f0 b0.f1 b0.f2 b0.f3 g0
  refine (caulkerlaw10_KindArrays.calls k b0.f0 b0.f1 b0.f2 b0.f3 true W h).mono fun e W' ⟨he, bel0⟩ => ?_
  have bel : Below W.heap.size W W' := bel0
  subst he
  exact ⟨_, rfl, _, _, _, [], _, [], hW', trodAll_mk1 (shut_bool Try.underlying4 _), (trodAll_cons_mk (Below.trod laidOut (by kernel_rfl) (of_decide_eq_true (by kernel_rfl)) k0 bel lt0) trodAll_mk0), rfl, bel.frame _, fun h => by cases h⟩
theorem over : Rows.kindArraysRow.holds Try.pinned (OpenSpec.ofChange Rows.kindArraysSpec) :=
  OpenClaim.holds_of_wide 5 Try.f5 rfl rfl rfl rfl rfl rfl rfl ⟨rfl, rfl, rfl, rfl, rfl⟩ rfl rfl rfl rfl rfl (by kernel_rfl) Try.func5 (by kernel_rfl)
    (of_decide_eq_true (by kernel_rfl)) (by unfold Func.isWrapper; first | (rw [if_pos (by decide +kernel)]; kernel_rfl) | (rw [if_neg (by decide +kernel)]; exact ⟨rfl, rfl⟩))
    (fun os started H enc _ => lifted os started H enc)
theorem proved : Rows.KindArraysSaid := over
end Go.Proofs.Ytljchkghnmnpgaa.kindArrays
namespace Go.Proofs.Ytljchkghnmnpgaa
theorem kindArrays_holds : Rows.KindArraysSaid := kindArrays.proved
end Go.Proofs.Ytljchkghnmnpgaa
