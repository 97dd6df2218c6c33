/- The row of the law KindMarks: for every input the law's call answers true and its arguments read as they did; no condition of ours. Written by a program (px.py); over the law's Pure. -/
import Derived.Test.YtljchkghnmnpgaaRows
import Derived.Test.YtljchkghnmnpgaaX4
import Derived.Test.YtljchkghnmnpgaaPureKindMarks
import Derived.Test.YtljchkghnmnpgaaOpen
import Derived.WalkKit
import Derived.ProofKit
import Derived.OpenShut
import Derived.ShutString
import Derived.ChangeOld
import Derived.Below
import Derived.SizedLaws
namespace Go.Proofs.Ytljchkghnmnpgaa.kindMarks
open Go.ChangeShapes Go.WideShapes Go.ChangeAt Go.RowKit Go.Proofs.Ytljchkghnmnpgaa.X Go.Proofs.YtljchkghnmnpgaaW.PrintWords
open Go.ChangeMaps (open_string shut_string)
set_option linter.unusedVariables false
theorem own : ownKnob Try.prog.godebug = none := by kernel_rfl
theorem laidOut : laidOutB Try.prog = true := by kernel_rfl
theorem opens23 : Op.Opens Try.prog 23 k23 good23 := Op.Opens.iso (Op.Opens.struct (total := 4) Try.underlying23 (by kernel_rfl) (Op.Chain.cons 0 _ rfl rfl 1 (by kernel_rfl) (Op.Opens.int Try.underlying3) (Op.Chain.cons 1 _ rfl rfl 2 (by kernel_rfl) (Op.Opens.string Try.underlying9) (Op.Chain.cons 2 _ rfl rfl 3 (by kernel_rfl) (Op.Opens.int Try.underlying3) (Op.Chain.last 3 _ rfl rfl (by kernel_rfl) (Op.Opens.string Try.underlying9)))))) _ (fun p => ⟨p.1, p.2.1, p.2.2.1, p.2.2.2⟩) (fun _ => rfl)
set_option maxRecDepth 100000 in
theorem lifted (os : Os) (started : os.Started) (H : Type) (enc : TypeId × Value → H) :
    ReturnsInHanded {} Try.checked os 4 .any (Rows.kindMarksSpec.pre6 enc Try.prog Try.f4 Rows.kindMarksRow.domain false) (Rows.kindMarksSpec.post enc Try.prog Try.f4 false true false false) := by
  refine returnsInHanded_of_change_sized (C := Try.checked) own started (by kernel_rfl) Try.func4
    (ChangeSpec.witness6 (enc := enc) (C := Try.checked) false ⟨#[], #[.agg #[.int .i64 0, .string ByteArray.empty, .int .i64 0, .string ByteArray.empty], .int .i64 0, .int .u8 0], []⟩ 8 (by kernel_rfl) (by kernel_rfl) (by kernel_rfl) (by kernel_rfl)) ?_
  intro W base args ds gs before hval0 hW hcnd hsz0 _
  have hsz : (DataW.weightsEach Try.prog (Try.f4.params.toList ++ Rows.kindMarksSpec.plain.varTypes Try.prog) (ds ++ gs)).all (· ≤ reachBytes) = true := hsz0
  have hval : ∀ (j : Nat) t v, Try.f4.params[j]? = some t → args[j]? = some v → Value.okWide Try.prog W .any base t v := hval0
  have hW' := hW
  obtain ⟨p, q, hA0, hV, rfl, hfz, hnd⟩ := hW
  have hA : DataW.TrodAll enc Try.prog W 0 (fun _ => true) true Try.f4.params.toList args.toList ds p := hA0
  rw [Try.params4] at hA hval hsz
  obtain ⟨v0, vs0, d0, ds0, p0, q0, hargs, rfl, rfl, h0, r0⟩ := trodAll_cons hA
  obtain ⟨v1, vs1, d1, ds1, p1, q1, rfl, rfl, rfl, h1, r1⟩ := trodAll_cons r0
  obtain ⟨v2, vs2, d2, ds2, p2, q2, rfl, rfl, rfl, h2, r2⟩ := trodAll_cons r1
  obtain ⟨rfl, rfl, rfl⟩ := trodAll_nil r2
  obtain rfl : args = #[v0, v1, v2] := by cases args; simp_all
  obtain ⟨rfl, rfl⟩ := trodVars_none hV
  have k0 := h0
  have lt0 : ∀ x ∈ p0, x.block < W.heap.size := by obtain ⟨m, hm⟩ := k0; exact DataW.trod_lt m _ _ _ hm
  obtain ⟨b0, cs0, rfl, K0, g0⟩ := Op.Opens.arg_struct Try.underlying23 opens23 (hval 0 23 v0 rfl rfl) h0
  obtain rfl := k23_open K0
  obtain ⟨a1, rfl, rfl, rfl, w1⟩ := open_int Try.underlying3 (hval 1 3 v1 rfl rfl) h1
  obtain ⟨a2, rfl, rfl, rfl, w2⟩ := open_int Try.underlying5 (hval 2 5 v2 rfl rfl) h2
  clear hA0 hval0 hsz0 hsz
  obtain ⟨k, h⟩ := Pure.KindMarks b0.f0 b0.f1 b0.f2 b0.f3 a1 a2 g0 w1 w2
  refine (caulkerlaw10_KindMarks.calls k b0.f0 b0.f1 b0.f2 b0.f3 a1 a2 true W h).mono fun e W' ⟨he, bel0⟩ => ?_
  have bel : Below W.heap.size W W' := bel0
  subst he
  exact ⟨_, rfl, _, _, _, [], _, [], hW', trodAll_mk1 (shut_bool Try.underlying4 _), (trodAll_cons_mk (Below.trod laidOut (by kernel_rfl) (of_decide_eq_true (by kernel_rfl)) k0 bel lt0) (trodAll_cons_mk (shut_int Try.underlying3 w1) (trodAll_cons_mk (shut_int Try.underlying5 w2) trodAll_mk0))), rfl, bel.frame _, fun h => by cases h⟩
theorem over : Rows.kindMarksRow.holds Try.pinned (OpenSpec.ofChange Rows.kindMarksSpec) :=
  OpenClaim.holds_of_wide 4 Try.f4 rfl rfl rfl rfl rfl rfl rfl ⟨rfl, rfl, rfl, rfl, rfl⟩ rfl rfl rfl rfl rfl (by kernel_rfl) Try.func4 (by kernel_rfl)
    (of_decide_eq_true (by kernel_rfl)) (by unfold Func.isWrapper; first | (rw [if_pos (by decide +kernel)]; kernel_rfl) | (rw [if_neg (by decide +kernel)]; exact ⟨rfl, rfl⟩))
    (fun os started H enc _ => lifted os started H enc)
theorem proved : Rows.KindMarksSaid := over
end Go.Proofs.Ytljchkghnmnpgaa.kindMarks
namespace Go.Proofs.Ytljchkghnmnpgaa
theorem kindMarks_holds : Rows.KindMarksSaid := kindMarks.proved
end Go.Proofs.Ytljchkghnmnpgaa
