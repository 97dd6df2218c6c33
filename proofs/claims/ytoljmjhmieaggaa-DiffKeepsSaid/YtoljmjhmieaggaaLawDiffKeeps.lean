/- The row of the law DiffKeeps: for every input the law's call answers true and its arguments read as they did; no condition of ours. Written by a program (px.py); over the law's Pure. -/
import Derived.Test.YtoljmjhmieaggaaRows
import Derived.Test.YtoljmjhmieaggaaX8
import Derived.Test.YtoljmjhmieaggaaPureDiffKeeps
import Derived.Test.YtoljmjhmieaggaaOpen
import Derived.WalkKit
import Derived.ProofKit
import Derived.OpenShut
import Derived.ShutString
import Derived.ChangeOld
import Derived.Below
import Derived.SizedLaws
namespace Go.Proofs.Ytoljmjhmieaggaa.diffKeeps
open Go.ChangeShapes Go.WideShapes Go.ChangeAt Go.RowKit Go.Proofs.Ytoljmjhmieaggaa.X Go.Proofs.YtoljmjhmieaggaaW.PrintWords
open Go.ChangeMaps (open_string shut_string)
set_option linter.unusedVariables false
theorem own : ownKnob Try.prog.godebug = none := by kernel_rfl
theorem laidOut : laidOutB Try.prog = true := by kernel_rfl
theorem opens39 : Op.Opens Try.prog 39 k39 good39 := Op.Opens.iso (Op.Opens.struct (total := 2) Try.underlying39 (by kernel_rfl) (Op.Chain.cons 0 _ rfl rfl 1 (by kernel_rfl) (Op.Opens.int Try.underlying3) (Op.Chain.last 1 _ rfl rfl (by kernel_rfl) (Op.Opens.int Try.underlying3)))) _ (fun p => ⟨p.1, p.2⟩) (fun _ => rfl)
theorem opens41 : Op.Opens Try.prog 41 k41 good41 := Op.Opens.iso (Op.Opens.struct (total := 3) Try.underlying41 (by kernel_rfl) (Op.Chain.cons 0 _ rfl rfl 2 (by kernel_rfl) opens39 (Op.Chain.last 1 _ rfl rfl (by kernel_rfl) (Op.Opens.string Try.underlying9)))) _ (fun p => ⟨p.1, p.2⟩) (fun _ => rfl)
set_option maxRecDepth 100000 in
theorem lifted (os : Os) (started : os.Started) (H : Type) (enc : TypeId × Value → H) :
    ReturnsInHanded {} Try.checked os 8 .any (Rows.diffKeepsSpec.pre6 enc Try.prog Try.f8 Rows.diffKeepsRow.domain false) (Rows.diffKeepsSpec.post enc Try.prog Try.f8 false true false false) := by
  refine returnsInHanded_of_change_sized (C := Try.checked) own started (by kernel_rfl) Try.func8
    (ChangeSpec.witness6 (enc := enc) (C := Try.checked) false ⟨#[], #[.string ByteArray.empty, .slice none 0 0], []⟩ 8 (by kernel_rfl) (by kernel_rfl) (by kernel_rfl) (by kernel_rfl)) ?_
  intro W base args ds gs before hval0 hW hcnd hsz0 _
  have hsz : (DataW.weightsEach Try.prog (Try.f8.params.toList ++ Rows.diffKeepsSpec.plain.varTypes Try.prog) (ds ++ gs)).all (· ≤ reachBytes) = true := hsz0
  have hval : ∀ (j : Nat) t v, Try.f8.params[j]? = some t → args[j]? = some v → Value.okWide Try.prog W .any base t v := hval0
  have hW' := hW
  obtain ⟨p, q, hA0, hV, rfl, hfz, hnd⟩ := hW
  have hA : DataW.TrodAll enc Try.prog W 0 (fun _ => true) true Try.f8.params.toList args.toList ds p := hA0
  rw [Try.params8] at hA hval hsz
  obtain ⟨v0, vs0, d0, ds0, p0, q0, hargs, rfl, rfl, h0, r0⟩ := trodAll_cons hA
  obtain ⟨v1, vs1, d1, ds1, p1, q1, rfl, rfl, rfl, h1, r1⟩ := trodAll_cons r0
  obtain ⟨rfl, rfl, rfl⟩ := trodAll_nil r1
  obtain rfl : args = #[v0, v1] := by cases args; simp_all
  obtain ⟨rfl, rfl⟩ := trodVars_none hV
  obtain ⟨a0, rfl, rfl, rfl, y0⟩ := open_string Try.underlying9 (hval 0 9 v0 rfl rfl) h0
  have w0 : a0.size ≤ 140737488351232 := by
    have z := sized_string hsz (j := 0) (t := 9) rfl rfl
    rw [Array.length_toList] at z
    exact z
  have k1 := h1
  have lt1 : ∀ x ∈ p1, x.block < W.heap.size := by obtain ⟨m, hm⟩ := k1; exact DataW.trod_lt m _ _ _ hm
  obtain ⟨A1, c1, l1, rfl, hc1, hr1, g1⟩ := Op.Opens.arg_slice Try.underlying23 (Op.Opens.slice Try.underlying23 (by kernel_rfl) opens41) (hval 1 23 v1 rfl rfl) h1
  have y1 : l1.length * 32 ≤ 140737488351232 := Op.sized_len hsz (j := 1) rfl rfl Try.underlying23 k1 (by kernel_rfl)
  clear hA0 hval0 hsz0 hsz
  obtain ⟨k, h⟩ := Pure.DiffKeeps a0 l1 w0 hr1.2.1 y1 g1
  refine (caulkerlaw04_DiffKeeps.calls k a0 A1 c1 l1 true W hr1 hc1 h).mono fun e W' ⟨he, bel0⟩ => ?_
  have bel : Below W.heap.size W W' := bel0
  subst he
  exact ⟨_, rfl, _, _, _, [], _, [], hW', trodAll_mk1 (shut_bool Try.underlying4 _), (trodAll_cons_mk (shut_string Try.underlying9 y0) (trodAll_cons_mk (Below.trod laidOut (by kernel_rfl) (of_decide_eq_true (by kernel_rfl)) k1 bel lt1) trodAll_mk0)), rfl, bel.frame _, fun h => by cases h⟩
theorem over : Rows.diffKeepsRow.holds Try.pinned (OpenSpec.ofChange Rows.diffKeepsSpec) :=
  OpenClaim.holds_of_wide 8 Try.f8 rfl rfl rfl rfl rfl rfl rfl ⟨rfl, rfl, rfl, rfl, rfl⟩ rfl rfl rfl rfl rfl (by kernel_rfl) Try.func8 (by kernel_rfl)
    (of_decide_eq_true (by kernel_rfl)) (by unfold Func.isWrapper; first | (rw [if_pos (by decide +kernel)]; kernel_rfl) | (rw [if_neg (by decide +kernel)]; exact ⟨rfl, rfl⟩))
    (fun os started H enc _ => lifted os started H enc)
theorem proved : Rows.DiffKeepsSaid := over
end Go.Proofs.Ytoljmjhmieaggaa.diffKeeps
namespace Go.Proofs.Ytoljmjhmieaggaa
theorem diffKeeps_holds : Rows.DiffKeepsSaid := diffKeeps.proved
end Go.Proofs.Ytoljmjhmieaggaa
