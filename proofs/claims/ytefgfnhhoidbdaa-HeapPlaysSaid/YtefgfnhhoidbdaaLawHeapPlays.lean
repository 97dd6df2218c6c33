/- The row of the law HeapPlays: for every input the law's call answers true and its arguments read as they did; no condition of ours. -/
import Derived.Test.YtefgfnhhoidbdaaRows
import Derived.Test.YtefgfnhhoidbdaaHeapPM
import Derived.Test.YtefgfnhhoidbdaaOpen
import Derived.WalkKit
import Derived.ProofKit
import Derived.OpenShut
import Derived.ShutString
import Derived.ChangeOld
import Derived.Below
import Derived.SizedLaws
namespace Go.Proofs.Ytefgfnhhoidbdaa.heapPlays
open Go.ChangeShapes Go.WideShapes Go.ChangeAt Go.RowKit Go.Proofs.Ytefgfnhhoidbdaa.H Go.Proofs.Ytefgfnhhoidbdaa.HpW Go.Proofs.YtefgfnhhoidbdaaW.PrintWords
open Go.ChangeMaps (open_string shut_string)
set_option linter.unusedVariables false
theorem own : ownKnob Try.prog.godebug = none := by kernel_rfl
theorem laidOut : laidOutB Try.prog = true := by kernel_rfl
set_option maxRecDepth 100000 in
theorem lifted (os : Os) (started : os.Started) (H : Type) (enc : TypeId × Value → H) :
    ReturnsInHanded {} Try.checked os 7 .any (Rows.heapPlaysSpec.pre6 enc Try.prog Try.f7 Rows.heapPlaysRow.domain false) (Rows.heapPlaysSpec.post enc Try.prog Try.f7 false true false false) := by
  refine returnsInHanded_of_change_sized (C := Try.checked) own started (by kernel_rfl) Try.func7
    (ChangeSpec.witness6 (enc := enc) (C := Try.checked) false ⟨#[], #[.slice none 0 0], []⟩ 8 (by kernel_rfl) (by kernel_rfl) (by kernel_rfl) (by kernel_rfl)) ?_
  intro W base args ds gs before hval0 hW hcnd hsz0 _
  have hval : ∀ (j : Nat) t v, Try.f7.params[j]? = some t → args[j]? = some v → Value.okWide Try.prog W .any base t v := hval0
  have hW' := hW
  obtain ⟨p, q, hA0, hV, rfl, hfz, hnd⟩ := hW
  have hA : DataW.TrodAll enc Try.prog W 0 (fun _ => true) true Try.f7.params.toList args.toList ds p := hA0
  rw [Try.params7] at hA hval
  obtain ⟨v0, vs0, d0, ds0, p0, q0, hargs, rfl, rfl, h0, r0⟩ := trodAll_cons hA
  obtain ⟨rfl, rfl, rfl⟩ := trodAll_nil r0
  obtain rfl : args = #[v0] := by cases args; simp_all
  obtain ⟨rfl, rfl⟩ := trodVars_none hV
  have k0 := h0
  have lt0 : ∀ x ∈ p0, x.block < W.heap.size := by obtain ⟨m, hm⟩ := k0; exact DataW.trod_lt m _ _ _ hm
  obtain ⟨A0, c0, l0, rfl, hc0, hr0, g0⟩ := Op.Opens.arg_slice Try.underlying52 (Op.Opens.slice Try.underlying52 (by kernel_rfl) (show Op.Opens Try.prog 63 k63 _ from Op.Opens.iso (Op.Opens.struct (total := 14) Try.underlying63 (by kernel_rfl) (Op.Chain.cons 0 _ rfl rfl 1 (by kernel_rfl) (Op.Opens.int Try.underlying3) (Op.Chain.cons 1 _ rfl rfl 2 (by kernel_rfl) (Op.Opens.string Try.underlying9) (Op.Chain.cons 2 _ rfl rfl 3 (by kernel_rfl) (Op.Opens.slice Try.underlying57 (by kernel_rfl) (show Op.Opens Try.prog 59 k59 _ from Op.Opens.iso (Op.Opens.struct (total := 4) Try.underlying59 (by kernel_rfl) (Op.Chain.cons 0 _ rfl rfl 1 (by kernel_rfl) (Op.Opens.int Try.underlying3) (Op.Chain.cons 1 _ rfl rfl 2 (by kernel_rfl) (Op.Opens.string Try.underlying9) (Op.Chain.cons 2 _ rfl rfl 3 (by kernel_rfl) (Op.Opens.int Try.underlying3) (Op.Chain.last 3 _ rfl rfl (by kernel_rfl) (Op.Opens.string Try.underlying9)))))) _ (fun p => ⟨p.1, p.2.1, p.2.2.1, p.2.2.2⟩) (fun _ => rfl))) (Op.Chain.cons 3 _ rfl rfl 7 (by kernel_rfl) (show Op.Opens Try.prog 59 k59 _ from Op.Opens.iso (Op.Opens.struct (total := 4) Try.underlying59 (by kernel_rfl) (Op.Chain.cons 0 _ rfl rfl 1 (by kernel_rfl) (Op.Opens.int Try.underlying3) (Op.Chain.cons 1 _ rfl rfl 2 (by kernel_rfl) (Op.Opens.string Try.underlying9) (Op.Chain.cons 2 _ rfl rfl 3 (by kernel_rfl) (Op.Opens.int Try.underlying3) (Op.Chain.last 3 _ rfl rfl (by kernel_rfl) (Op.Opens.string Try.underlying9)))))) _ (fun p => ⟨p.1, p.2.1, p.2.2.1, p.2.2.2⟩) (fun _ => rfl)) (Op.Chain.cons 4 _ rfl rfl 8 (by kernel_rfl) (Op.Opens.int Try.underlying2) (Op.Chain.cons 5 _ rfl rfl 11 (by kernel_rfl) (show Op.Opens Try.prog 61 k61 _ from Op.Opens.iso (Op.Opens.struct (total := 3) Try.underlying61 (by kernel_rfl) (Op.Chain.cons 0 _ rfl rfl 1 (by kernel_rfl) (Op.Opens.int Try.underlying3) (Op.Chain.cons 1 _ rfl rfl 2 (by kernel_rfl) (Op.Opens.int Try.underlying2) (Op.Chain.last 2 _ rfl rfl (by kernel_rfl) (Op.Opens.string Try.underlying9))))) _ (fun p => ⟨p.1, p.2.1, p.2.2⟩) (fun _ => rfl)) (Op.Chain.last 6 _ rfl rfl (by kernel_rfl) (show Op.Opens Try.prog 61 k61 _ from Op.Opens.iso (Op.Opens.struct (total := 3) Try.underlying61 (by kernel_rfl) (Op.Chain.cons 0 _ rfl rfl 1 (by kernel_rfl) (Op.Opens.int Try.underlying3) (Op.Chain.cons 1 _ rfl rfl 2 (by kernel_rfl) (Op.Opens.int Try.underlying2) (Op.Chain.last 2 _ rfl rfl (by kernel_rfl) (Op.Opens.string Try.underlying9))))) _ (fun p => ⟨p.1, p.2.1, p.2.2⟩) (fun _ => rfl)))))))))) _ (fun p => ⟨p.1, p.2.1, p.2.2.1, p.2.2.2.1, p.2.2.2.2.1, p.2.2.2.2.2.1, p.2.2.2.2.2.2⟩) (fun _ => rfl))) (hval 0 52 v0 rfl rfl) h0
  clear hA0 hval0 hsz0
  refine (HpW.plays_any A0 c0 l0 W hr0).mono fun e W' ⟨he, bel0⟩ => ?_
  have bel : Below W.heap.size W W' := bel0
  subst he
  exact ⟨_, rfl, _, _, _, [], _, [], hW', trodAll_mk1 (shut_bool Try.underlying4 _), (trodAll_cons_mk (Below.trod laidOut (by kernel_rfl) (of_decide_eq_true (by kernel_rfl)) k0 bel lt0) trodAll_mk0), rfl, bel.frame _, fun h => by cases h⟩
theorem over : Rows.heapPlaysRow.holds Try.pinned (OpenSpec.ofChange Rows.heapPlaysSpec) :=
  OpenClaim.holds_of_wide 7 Try.f7 rfl rfl rfl rfl rfl rfl rfl ⟨rfl, rfl, rfl, rfl, rfl⟩ rfl rfl rfl rfl rfl (by kernel_rfl) Try.func7 (by kernel_rfl)
    (of_decide_eq_true (by kernel_rfl)) (by unfold Func.isWrapper; first | (rw [if_pos (by decide +kernel)]; kernel_rfl) | (rw [if_neg (by decide +kernel)]; exact ⟨rfl, rfl⟩))
    (fun os started H enc _ => lifted os started H enc)
theorem proved : Rows.HeapPlaysSaid := over
end Go.Proofs.Ytefgfnhhoidbdaa.heapPlays
namespace Go.Proofs.Ytefgfnhhoidbdaa
theorem heapPlays_holds : Rows.HeapPlaysSaid := heapPlays.proved
end Go.Proofs.Ytefgfnhhoidbdaa
