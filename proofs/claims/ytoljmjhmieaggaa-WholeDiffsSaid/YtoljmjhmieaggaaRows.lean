/-
  No cell of these rows narrows 'for every input' (looked for: loops, veiled, ifaces, maps, wideKeys, modest, calm, conditions, laid).
  DERIVED. THE GIVEN ROWS OF THIS SEAT. 8 by the template 'for every input the law returns true; each argument reads behind the call as it read before'; 0 by the template 'total and deterministic' (their statements: YtoljmjhmieaggaaTotals.lean).
  GIVEN WITH THE SEED: the statements are not yours to turn. If you find one false, say at which input.
  Laid BY PROGRAM, IN A SANDBOX (cutbox-rows.mjs): the forced cells as the released guide's own fill.sh prints them over the translation 180e4f8d8c1694ef… (all of the seat's roots in one cut). By AI agents, Wed Nov 11 2026. No macro, syntax, notation, axiom, sorry.
-/
import Derived.Test.YtoljmjhmieaggaaChecked
import GoSem.Claim
import GoSem.ClaimJoined
import GoSem.ClaimMapViews
import Derived.JoinedTies
import Derived.KernelRfl
namespace Go.Proofs.Ytoljmjhmieaggaa
/- THE CELL 'sum', in the pinned program and in every row, IS THE sha256 OF THE DUMP (.gsa) THAT YtoljmjhmieaggaaProg.lean LOADS. Nothing in Lean hashes anything: it is a label: what it is worth is what the hold of that sum in a sandbox is worth. -/
noncomputable def Try.pinned : Pinned := { name := "ytoljmjhmieaggaa", sum := "180e4f8d8c1694efa80729ba241ebf9b656dab1682119e7d1aa5790695a95812", checked := Try.checked }
namespace Rows
def none {H : Type} : Left H := { results := [], args := [] }

/-- 'caulkerlaw04.DiffMakes': WHATEVER THE INPUT: true; the input reads as it did. -/
def diffMakesSpec : ChangeSpec := { name := "diffMakes", fn := fun _ => fun
  | [d1, d2] => { results := [.lit (.bool true)], args := [d1, d2] }
  | _ => none }
def diffMakesRow : OpenClaim := { program := "ytoljmjhmieaggaa", sum := "180e4f8d8c1694efa80729ba241ebf9b656dab1682119e7d1aa5790695a95812", func := "caulker/caulkerlaw04.DiffMakes", spec := "diffMakes", apart := false }
def DiffMakesSaid : Prop := diffMakesRow.holds Try.pinned (OpenSpec.ofChange diffMakesSpec)

/-- ITS FALSE NEIGHBOUR: 'it returns false'. Refute it at one input. -/
def diffMakesWrong : ChangeSpec := { name := "diffMakes", fn := fun _ => fun
  | [d1, d2] => { results := [.lit (.bool false)], args := [d1, d2] }
  | _ => none }
def DiffMakesWrongFalsely : Prop := diffMakesRow.holds Try.pinned (OpenSpec.ofChange diffMakesWrong)

/-- 'caulkerlaw04.DiffAny': WHATEVER THE INPUT: true; the input reads as it did. -/
def diffAnySpec : ChangeSpec := { name := "diffAny", fn := fun _ => fun
  | [d1, d2, d3] => { results := [.lit (.bool true)], args := [d1, d2, d3] }
  | _ => none }
def diffAnyRow : OpenClaim := { program := "ytoljmjhmieaggaa", sum := "180e4f8d8c1694efa80729ba241ebf9b656dab1682119e7d1aa5790695a95812", func := "caulker/caulkerlaw04.DiffAny", spec := "diffAny", apart := false }
def DiffAnySaid : Prop := diffAnyRow.holds Try.pinned (OpenSpec.ofChange diffAnySpec)

/-- ITS FALSE NEIGHBOUR: 'it returns false'. Refute it at one input. -/
def diffAnyWrong : ChangeSpec := { name := "diffAny", fn := fun _ => fun
  | [d1, d2, d3] => { results := [.lit (.bool false)], args := [d1, d2, d3] }
  | _ => none }
def DiffAnyWrongFalsely : Prop := diffAnyRow.holds Try.pinned (OpenSpec.ofChange diffAnyWrong)

/-- 'caulkerlaw04.DiffBack': WHATEVER THE INPUT: true; the input reads as it did. -/
def diffBackSpec : ChangeSpec := { name := "diffBack", fn := fun _ => fun
  | [d1, d2] => { results := [.lit (.bool true)], args := [d1, d2] }
  | _ => none }
def diffBackRow : OpenClaim := { program := "ytoljmjhmieaggaa", sum := "180e4f8d8c1694efa80729ba241ebf9b656dab1682119e7d1aa5790695a95812", func := "caulker/caulkerlaw04.DiffBack", spec := "diffBack", apart := false }
def DiffBackSaid : Prop := diffBackRow.holds Try.pinned (OpenSpec.ofChange diffBackSpec)

/-- ITS FALSE NEIGHBOUR: 'it returns false'. Refute it at one input. -/
def diffBackWrong : ChangeSpec := { name := "diffBack", fn := fun _ => fun
  | [d1, d2] => { results := [.lit (.bool false)], args := [d1, d2] }
  | _ => none }
def DiffBackWrongFalsely : Prop := diffBackRow.holds Try.pinned (OpenSpec.ofChange diffBackWrong)

/-- 'caulkerlaw04.DiffTriangle': WHATEVER THE INPUT: true; the input reads as it did. -/
def diffTriangleSpec : ChangeSpec := { name := "diffTriangle", fn := fun _ => fun
  | [d1, d2, d3] => { results := [.lit (.bool true)], args := [d1, d2, d3] }
  | _ => none }
def diffTriangleRow : OpenClaim := { program := "ytoljmjhmieaggaa", sum := "180e4f8d8c1694efa80729ba241ebf9b656dab1682119e7d1aa5790695a95812", func := "caulker/caulkerlaw04.DiffTriangle", spec := "diffTriangle", apart := false }
def DiffTriangleSaid : Prop := diffTriangleRow.holds Try.pinned (OpenSpec.ofChange diffTriangleSpec)

/-- ITS FALSE NEIGHBOUR: 'it returns false'. Refute it at one input. -/
def diffTriangleWrong : ChangeSpec := { name := "diffTriangle", fn := fun _ => fun
  | [d1, d2, d3] => { results := [.lit (.bool false)], args := [d1, d2, d3] }
  | _ => none }
def DiffTriangleWrongFalsely : Prop := diffTriangleRow.holds Try.pinned (OpenSpec.ofChange diffTriangleWrong)

/-- 'caulkerlaw04.DiffPuts': WHATEVER THE INPUT: true; the input reads as it did. -/
def diffPutsSpec : ChangeSpec := { name := "diffPuts", fn := fun _ => fun
  | [d1, d2, d3] => { results := [.lit (.bool true)], args := [d1, d2, d3] }
  | _ => none }
def diffPutsRow : OpenClaim := { program := "ytoljmjhmieaggaa", sum := "180e4f8d8c1694efa80729ba241ebf9b656dab1682119e7d1aa5790695a95812", func := "caulker/caulkerlaw04.DiffPuts", spec := "diffPuts", apart := false }
def DiffPutsSaid : Prop := diffPutsRow.holds Try.pinned (OpenSpec.ofChange diffPutsSpec)

/-- ITS FALSE NEIGHBOUR: 'it returns false'. Refute it at one input. -/
def diffPutsWrong : ChangeSpec := { name := "diffPuts", fn := fun _ => fun
  | [d1, d2, d3] => { results := [.lit (.bool false)], args := [d1, d2, d3] }
  | _ => none }
def DiffPutsWrongFalsely : Prop := diffPutsRow.holds Try.pinned (OpenSpec.ofChange diffPutsWrong)

/-- 'caulkerlaw04.DiffKeeps': WHATEVER THE INPUT: true; the input reads as it did. -/
def diffKeepsSpec : ChangeSpec := { name := "diffKeeps", fn := fun _ => fun
  | [d1, d2] => { results := [.lit (.bool true)], args := [d1, d2] }
  | _ => none }
def diffKeepsRow : OpenClaim := { program := "ytoljmjhmieaggaa", sum := "180e4f8d8c1694efa80729ba241ebf9b656dab1682119e7d1aa5790695a95812", func := "caulker/caulkerlaw04.DiffKeeps", spec := "diffKeeps", apart := false }
def DiffKeepsSaid : Prop := diffKeepsRow.holds Try.pinned (OpenSpec.ofChange diffKeepsSpec)

/-- ITS FALSE NEIGHBOUR: 'it returns false'. Refute it at one input. -/
def diffKeepsWrong : ChangeSpec := { name := "diffKeeps", fn := fun _ => fun
  | [d1, d2] => { results := [.lit (.bool false)], args := [d1, d2] }
  | _ => none }
def DiffKeepsWrongFalsely : Prop := diffKeepsRow.holds Try.pinned (OpenSpec.ofChange diffKeepsWrong)

/-- 'caulkerlaw04.DiffTidy': WHATEVER THE INPUT: true; the input reads as it did. -/
def diffTidySpec : ChangeSpec := { name := "diffTidy", fn := fun _ => fun
  | [d1, d2] => { results := [.lit (.bool true)], args := [d1, d2] }
  | _ => none }
def diffTidyRow : OpenClaim := { program := "ytoljmjhmieaggaa", sum := "180e4f8d8c1694efa80729ba241ebf9b656dab1682119e7d1aa5790695a95812", func := "caulker/caulkerlaw04.DiffTidy", spec := "diffTidy", inPlace := ["internal/abi.NoEscape"], apart := false }
def DiffTidySaid : Prop := diffTidyRow.holds Try.pinned (OpenSpec.ofChange diffTidySpec)

/-- ITS FALSE NEIGHBOUR: 'it returns false'. Refute it at one input. -/
def diffTidyWrong : ChangeSpec := { name := "diffTidy", fn := fun _ => fun
  | [d1, d2] => { results := [.lit (.bool false)], args := [d1, d2] }
  | _ => none }
def DiffTidyWrongFalsely : Prop := diffTidyRow.holds Try.pinned (OpenSpec.ofChange diffTidyWrong)

/-- 'caulkertop.WholeDiffs': WHATEVER THE INPUT: true; the input reads as it did. -/
def wholeDiffsSpec : ChangeSpec := { name := "wholeDiffs", fn := fun _ => fun
  | [d1, d2, d3] => { results := [.lit (.bool true)], args := [d1, d2, d3] }
  | _ => none }
def wholeDiffsRow : OpenClaim := { program := "ytoljmjhmieaggaa", sum := "180e4f8d8c1694efa80729ba241ebf9b656dab1682119e7d1aa5790695a95812", func := "caulker/caulkertop.WholeDiffs", spec := "wholeDiffs", inPlace := ["internal/abi.NoEscape"], apart := false }
def WholeDiffsSaid : Prop := wholeDiffsRow.holds Try.pinned (OpenSpec.ofChange wholeDiffsSpec)

/-- ITS FALSE NEIGHBOUR: 'it returns false'. Refute it at one input. -/
def wholeDiffsWrong : ChangeSpec := { name := "wholeDiffs", fn := fun _ => fun
  | [d1, d2, d3] => { results := [.lit (.bool false)], args := [d1, d2, d3] }
  | _ => none }
def WholeDiffsWrongFalsely : Prop := wholeDiffsRow.holds Try.pinned (OpenSpec.ofChange wholeDiffsWrong)

/- THE SECOND FORM. 'bulk': how many values and letters a reading holds, each counted each time it is reached (what is shared counts as often as it is met; a slice's spare places count too). A statement '..UptoSaid' is the law's where the arguments, and the package variables that the reading takes, are together of bulk at most 1048576: NARROWER than '..Said'. Prove '..Said' where nothing that the law and all that it calls make is longer than what came in: it says more and counts as full. Else prove '..UptoSaid'. A law counts once. -/
mutual
def uptoBulk {H : Type} : DataW H → Nat
  | .lit (.string bytes) => bytes.length + 1
  | .lit _ => 1
  | .nil => 1
  | .ptr d => uptoBulk d + 1
  | .slice elems spare => uptoBulkAll elems + uptoBulkAll spare + 1
  | .agg parts => uptoBulkAll parts + 1
  | .iface _ d => uptoBulk d + 1
  | .map entries => uptoBulkEntries entries + 1
  | .held _ => 1
def uptoBulkAll {H : Type} : List (DataW H) → Nat
  | [] => 0
  | d :: r => uptoBulk d + uptoBulkAll r
def uptoBulkEntries {H : Type} : List (Lit × DataW H) → Nat
  | [] => 0
  | x :: r => uptoBulkEntry x + uptoBulkEntries r
def uptoBulkEntry {H : Type} : Lit × DataW H → Nat
  | (.string bytes, d) => bytes.length + uptoBulk d + 1
  | (_, d) => uptoBulk d + 1
 end
def uptoSmall : (H : Type) → List (DataW H) → Bool := fun _ ds => decide (uptoBulkAll ds ≤ 1048576)
def OpenSpec.upto (s : _root_.Go.ChangeSpec) : _root_.Go.OpenSpec := { _root_.Go.OpenSpec.ofChange s with cond := some uptoSmall }

/-- 'caulkerlaw04.DiffMakes', WHERE WHAT IT READS IS OF BULK AT MOST 1048576: true; the input reads as it did. -/
def diffMakesUptoRow : OpenClaim := { program := "ytoljmjhmieaggaa", sum := "180e4f8d8c1694efa80729ba241ebf9b656dab1682119e7d1aa5790695a95812", func := "caulker/caulkerlaw04.DiffMakes", spec := "diffMakes", apart := false, narrowed := true }
def DiffMakesUptoSaid : Prop := diffMakesUptoRow.holds Try.pinned (OpenSpec.upto diffMakesSpec)

/-- 'caulkerlaw04.DiffAny', WHERE WHAT IT READS IS OF BULK AT MOST 1048576: true; the input reads as it did. -/
def diffAnyUptoRow : OpenClaim := { program := "ytoljmjhmieaggaa", sum := "180e4f8d8c1694efa80729ba241ebf9b656dab1682119e7d1aa5790695a95812", func := "caulker/caulkerlaw04.DiffAny", spec := "diffAny", apart := false, narrowed := true }
def DiffAnyUptoSaid : Prop := diffAnyUptoRow.holds Try.pinned (OpenSpec.upto diffAnySpec)

/-- 'caulkerlaw04.DiffBack', WHERE WHAT IT READS IS OF BULK AT MOST 1048576: true; the input reads as it did. -/
def diffBackUptoRow : OpenClaim := { program := "ytoljmjhmieaggaa", sum := "180e4f8d8c1694efa80729ba241ebf9b656dab1682119e7d1aa5790695a95812", func := "caulker/caulkerlaw04.DiffBack", spec := "diffBack", apart := false, narrowed := true }
def DiffBackUptoSaid : Prop := diffBackUptoRow.holds Try.pinned (OpenSpec.upto diffBackSpec)

/-- 'caulkerlaw04.DiffTriangle', WHERE WHAT IT READS IS OF BULK AT MOST 1048576: true; the input reads as it did. -/
def diffTriangleUptoRow : OpenClaim := { program := "ytoljmjhmieaggaa", sum := "180e4f8d8c1694efa80729ba241ebf9b656dab1682119e7d1aa5790695a95812", func := "caulker/caulkerlaw04.DiffTriangle", spec := "diffTriangle", apart := false, narrowed := true }
def DiffTriangleUptoSaid : Prop := diffTriangleUptoRow.holds Try.pinned (OpenSpec.upto diffTriangleSpec)

/-- 'caulkerlaw04.DiffPuts', WHERE WHAT IT READS IS OF BULK AT MOST 1048576: true; the input reads as it did. -/
def diffPutsUptoRow : OpenClaim := { program := "ytoljmjhmieaggaa", sum := "180e4f8d8c1694efa80729ba241ebf9b656dab1682119e7d1aa5790695a95812", func := "caulker/caulkerlaw04.DiffPuts", spec := "diffPuts", apart := false, narrowed := true }
def DiffPutsUptoSaid : Prop := diffPutsUptoRow.holds Try.pinned (OpenSpec.upto diffPutsSpec)

/-- 'caulkerlaw04.DiffKeeps', WHERE WHAT IT READS IS OF BULK AT MOST 1048576: true; the input reads as it did. -/
def diffKeepsUptoRow : OpenClaim := { program := "ytoljmjhmieaggaa", sum := "180e4f8d8c1694efa80729ba241ebf9b656dab1682119e7d1aa5790695a95812", func := "caulker/caulkerlaw04.DiffKeeps", spec := "diffKeeps", apart := false, narrowed := true }
def DiffKeepsUptoSaid : Prop := diffKeepsUptoRow.holds Try.pinned (OpenSpec.upto diffKeepsSpec)

/-- 'caulkerlaw04.DiffTidy', WHERE WHAT IT READS IS OF BULK AT MOST 1048576: true; the input reads as it did. -/
def diffTidyUptoRow : OpenClaim := { program := "ytoljmjhmieaggaa", sum := "180e4f8d8c1694efa80729ba241ebf9b656dab1682119e7d1aa5790695a95812", func := "caulker/caulkerlaw04.DiffTidy", spec := "diffTidy", inPlace := ["internal/abi.NoEscape"], apart := false, narrowed := true }
def DiffTidyUptoSaid : Prop := diffTidyUptoRow.holds Try.pinned (OpenSpec.upto diffTidySpec)

/-- 'caulkertop.WholeDiffs', WHERE WHAT IT READS IS OF BULK AT MOST 1048576: true; the input reads as it did. -/
def wholeDiffsUptoRow : OpenClaim := { program := "ytoljmjhmieaggaa", sum := "180e4f8d8c1694efa80729ba241ebf9b656dab1682119e7d1aa5790695a95812", func := "caulker/caulkertop.WholeDiffs", spec := "wholeDiffs", inPlace := ["internal/abi.NoEscape"], apart := false, narrowed := true }
def WholeDiffsUptoSaid : Prop := wholeDiffsUptoRow.holds Try.pinned (OpenSpec.upto wholeDiffsSpec)

end Rows
end Go.Proofs.Ytoljmjhmieaggaa
