/-
  No cell of these rows narrows 'for every input' (looked for: loops, veiled, ifaces, maps, wideKeys, modest, calm, conditions, laid).
  DERIVED. THE GIVEN ROWS OF THIS SEAT. 7 by the template 'for every input the law returns true; each argument reads behind the call as it read before'; 0 by the template 'total and deterministic' (their statements: YtefgfnhhoidbdaaTotals.lean).
  GIVEN WITH THE SEED: the statements are not yours to turn. If you find one false, say at which input.
  Laid BY PROGRAM, IN A SANDBOX (cutbox-rows.mjs): the forced cells as the released guide's own fill.sh prints them over the translation 007403649b3f256c… (all of the seat's roots in one cut). By AI agents, Wed Nov 11 2026. No macro, syntax, notation, axiom, sorry.
-/
import Derived.Test.YtefgfnhhoidbdaaChecked
import GoSem.Claim
import GoSem.ClaimJoined
import GoSem.ClaimMapViews
import Derived.JoinedTies
import Derived.KernelRfl
namespace Go.Proofs.Ytefgfnhhoidbdaa
/- THE CELL 'sum', in the pinned program and in every row, IS THE sha256 OF THE DUMP (.gsa) THAT YtefgfnhhoidbdaaProg.lean LOADS. Nothing in Lean hashes anything: it is a label: what it is worth is what the hold of that sum in a sandbox is worth. -/
noncomputable def Try.pinned : Pinned := { name := "ytefgfnhhoidbdaa", sum := "007403649b3f256c5c25ffc0bb39068bd0bdde6a3cb3161ef127cd7a7ed37efe", checked := Try.checked }
namespace Rows
def none {H : Type} : Left H := { results := [], args := [] }

/-- 'caulkerlaw21.GraphAdds': WHATEVER THE INPUT: true; the input reads as it did. -/
def graphAddsSpec : ChangeSpec := { name := "graphAdds", fn := fun _ => fun
  | [d1, d2] => { results := [.lit (.bool true)], args := [d1, d2] }
  | _ => none }
def graphAddsRow : OpenClaim := { program := "ytefgfnhhoidbdaa", sum := "007403649b3f256c5c25ffc0bb39068bd0bdde6a3cb3161ef127cd7a7ed37efe", func := "caulker/caulkerlaw21.GraphAdds", spec := "graphAdds", apart := false }
def GraphAddsSaid : Prop := graphAddsRow.holds Try.pinned (OpenSpec.ofChange graphAddsSpec)

/-- ITS FALSE NEIGHBOUR: 'it returns false'. Refute it at one input. -/
def graphAddsWrong : ChangeSpec := { name := "graphAdds", fn := fun _ => fun
  | [d1, d2] => { results := [.lit (.bool false)], args := [d1, d2] }
  | _ => none }
def GraphAddsWrongFalsely : Prop := graphAddsRow.holds Try.pinned (OpenSpec.ofChange graphAddsWrong)

/-- 'caulkerlaw21.GraphLeast': WHATEVER THE INPUT: true; the input reads as it did. -/
def graphLeastSpec : ChangeSpec := { name := "graphLeast", fn := fun _ => fun
  | [d1, d2, d3] => { results := [.lit (.bool true)], args := [d1, d2, d3] }
  | _ => none }
def graphLeastRow : OpenClaim := { program := "ytefgfnhhoidbdaa", sum := "007403649b3f256c5c25ffc0bb39068bd0bdde6a3cb3161ef127cd7a7ed37efe", func := "caulker/caulkerlaw21.GraphLeast", spec := "graphLeast", apart := false }
def GraphLeastSaid : Prop := graphLeastRow.holds Try.pinned (OpenSpec.ofChange graphLeastSpec)

/-- ITS FALSE NEIGHBOUR: 'it returns false'. Refute it at one input. -/
def graphLeastWrong : ChangeSpec := { name := "graphLeast", fn := fun _ => fun
  | [d1, d2, d3] => { results := [.lit (.bool false)], args := [d1, d2, d3] }
  | _ => none }
def GraphLeastWrongFalsely : Prop := graphLeastRow.holds Try.pinned (OpenSpec.ofChange graphLeastWrong)

/-- 'caulkerlaw21.GraphShut': WHATEVER THE INPUT: true; the input reads as it did. -/
def graphShutSpec : ChangeSpec := { name := "graphShut", fn := fun _ => fun
  | [d1, d2, d3] => { results := [.lit (.bool true)], args := [d1, d2, d3] }
  | _ => none }
def graphShutRow : OpenClaim := { program := "ytefgfnhhoidbdaa", sum := "007403649b3f256c5c25ffc0bb39068bd0bdde6a3cb3161ef127cd7a7ed37efe", func := "caulker/caulkerlaw21.GraphShut", spec := "graphShut", apart := false }
def GraphShutSaid : Prop := graphShutRow.holds Try.pinned (OpenSpec.ofChange graphShutSpec)

/-- ITS FALSE NEIGHBOUR: 'it returns false'. Refute it at one input. -/
def graphShutWrong : ChangeSpec := { name := "graphShut", fn := fun _ => fun
  | [d1, d2, d3] => { results := [.lit (.bool false)], args := [d1, d2, d3] }
  | _ => none }
def GraphShutWrongFalsely : Prop := graphShutRow.holds Try.pinned (OpenSpec.ofChange graphShutWrong)

/-- 'caulkerlaw21.GraphWithout': WHATEVER THE INPUT: true; the input reads as it did. -/
def graphWithoutSpec : ChangeSpec := { name := "graphWithout", fn := fun _ => fun
  | [d1, d2, d3] => { results := [.lit (.bool true)], args := [d1, d2, d3] }
  | _ => none }
def graphWithoutRow : OpenClaim := { program := "ytefgfnhhoidbdaa", sum := "007403649b3f256c5c25ffc0bb39068bd0bdde6a3cb3161ef127cd7a7ed37efe", func := "caulker/caulkerlaw21.GraphWithout", spec := "graphWithout", apart := false }
def GraphWithoutSaid : Prop := graphWithoutRow.holds Try.pinned (OpenSpec.ofChange graphWithoutSpec)

/-- ITS FALSE NEIGHBOUR: 'it returns false'. Refute it at one input. -/
def graphWithoutWrong : ChangeSpec := { name := "graphWithout", fn := fun _ => fun
  | [d1, d2, d3] => { results := [.lit (.bool false)], args := [d1, d2, d3] }
  | _ => none }
def GraphWithoutWrongFalsely : Prop := graphWithoutRow.holds Try.pinned (OpenSpec.ofChange graphWithoutWrong)

/-- 'caulkerlaw15.HeapPlays': WHATEVER THE INPUT: true; the input reads as it did. -/
def heapPlaysSpec : ChangeSpec := { name := "heapPlays", fn := fun _ => fun
  | [d] => { results := [.lit (.bool true)], args := [d] }
  | _ => none }
def heapPlaysRow : OpenClaim := { program := "ytefgfnhhoidbdaa", sum := "007403649b3f256c5c25ffc0bb39068bd0bdde6a3cb3161ef127cd7a7ed37efe", func := "caulker/caulkerlaw15.HeapPlays", spec := "heapPlays", apart := false }
def HeapPlaysSaid : Prop := heapPlaysRow.holds Try.pinned (OpenSpec.ofChange heapPlaysSpec)

/-- ITS FALSE NEIGHBOUR: 'it returns false'. Refute it at one input. -/
def heapPlaysWrong : ChangeSpec := { name := "heapPlays", fn := fun _ => fun
  | [d] => { results := [.lit (.bool false)], args := [d] }
  | _ => none }
def HeapPlaysWrongFalsely : Prop := heapPlaysRow.holds Try.pinned (OpenSpec.ofChange heapPlaysWrong)

/-- 'caulkerlaw15.HeapFull': WHATEVER THE INPUT: true; the input reads as it did. -/
def heapFullSpec : ChangeSpec := { name := "heapFull", fn := fun _ => fun
  | [d1, d2, d3] => { results := [.lit (.bool true)], args := [d1, d2, d3] }
  | _ => none }
def heapFullRow : OpenClaim := { program := "ytefgfnhhoidbdaa", sum := "007403649b3f256c5c25ffc0bb39068bd0bdde6a3cb3161ef127cd7a7ed37efe", func := "caulker/caulkerlaw15.HeapFull", spec := "heapFull", apart := false }
def HeapFullSaid : Prop := heapFullRow.holds Try.pinned (OpenSpec.ofChange heapFullSpec)

/-- ITS FALSE NEIGHBOUR: 'it returns false'. Refute it at one input. -/
def heapFullWrong : ChangeSpec := { name := "heapFull", fn := fun _ => fun
  | [d1, d2, d3] => { results := [.lit (.bool false)], args := [d1, d2, d3] }
  | _ => none }
def HeapFullWrongFalsely : Prop := heapFullRow.holds Try.pinned (OpenSpec.ofChange heapFullWrong)

/-- 'caulkerlaw21.GraphPaths': WHATEVER THE INPUT: true; the input reads as it did. -/
def graphPathsSpec : ChangeSpec := { name := "graphPaths", fn := fun _ => fun
  | [d1, d2, d3] => { results := [.lit (.bool true)], args := [d1, d2, d3] }
  | _ => none }
def graphPathsRow : OpenClaim := { program := "ytefgfnhhoidbdaa", sum := "007403649b3f256c5c25ffc0bb39068bd0bdde6a3cb3161ef127cd7a7ed37efe", func := "caulker/caulkerlaw21.GraphPaths", spec := "graphPaths", apart := false }
def GraphPathsSaid : Prop := graphPathsRow.holds Try.pinned (OpenSpec.ofChange graphPathsSpec)

/-- ITS FALSE NEIGHBOUR: 'it returns false'. Refute it at one input. -/
def graphPathsWrong : ChangeSpec := { name := "graphPaths", fn := fun _ => fun
  | [d1, d2, d3] => { results := [.lit (.bool false)], args := [d1, d2, d3] }
  | _ => none }
def GraphPathsWrongFalsely : Prop := graphPathsRow.holds Try.pinned (OpenSpec.ofChange graphPathsWrong)

/- THE SECOND FORM. 'bulk': how many values and letters a reading holds, each counted each time it is reached (what is shared counts as often as it is met; a slice's spare places count too). A statement '..UptoSaid' is the law's where the arguments, and the package variables that the reading takes, are together of bulk at most 1048576: NARROWER than '..Said'. Prove '..Said' where nothing that the law and all that it calls make is longer than what came in: it says more and counts as full. Else prove '..UptoSaid'. A law counts once. -/
mutual
def uptoBulk {H : Type} : DataW H → Nat
  | .lit (.string bytes) => bytes.length + 1
  | .lit _ => 1
  | .nil => 1
  | .ptr d => uptoBulk d + 1
  | .slice elems spare => uptoBulkAll elems + uptoBulkAll spare + 1
  | .agg parts => uptoBulkAll parts + 1
  | .iface _ d => uptoBulk d + 1
  | .map entries => uptoBulkEntries entries + 1
  | .held _ => 1
def uptoBulkAll {H : Type} : List (DataW H) → Nat
  | [] => 0
  | d :: r => uptoBulk d + uptoBulkAll r
def uptoBulkEntries {H : Type} : List (Lit × DataW H) → Nat
  | [] => 0
  | x :: r => uptoBulkEntry x + uptoBulkEntries r
def uptoBulkEntry {H : Type} : Lit × DataW H → Nat
  | (.string bytes, d) => bytes.length + uptoBulk d + 1
  | (_, d) => uptoBulk d + 1
 end
def uptoSmall : (H : Type) → List (DataW H) → Bool := fun _ ds => decide (uptoBulkAll ds ≤ 1048576)
def OpenSpec.upto (s : _root_.Go.ChangeSpec) : _root_.Go.OpenSpec := { _root_.Go.OpenSpec.ofChange s with cond := some uptoSmall }

/-- 'caulkerlaw21.GraphAdds', WHERE WHAT IT READS IS OF BULK AT MOST 1048576: true; the input reads as it did. -/
def graphAddsUptoRow : OpenClaim := { program := "ytefgfnhhoidbdaa", sum := "007403649b3f256c5c25ffc0bb39068bd0bdde6a3cb3161ef127cd7a7ed37efe", func := "caulker/caulkerlaw21.GraphAdds", spec := "graphAdds", apart := false, narrowed := true }
def GraphAddsUptoSaid : Prop := graphAddsUptoRow.holds Try.pinned (OpenSpec.upto graphAddsSpec)

/-- 'caulkerlaw21.GraphLeast', WHERE WHAT IT READS IS OF BULK AT MOST 1048576: true; the input reads as it did. -/
def graphLeastUptoRow : OpenClaim := { program := "ytefgfnhhoidbdaa", sum := "007403649b3f256c5c25ffc0bb39068bd0bdde6a3cb3161ef127cd7a7ed37efe", func := "caulker/caulkerlaw21.GraphLeast", spec := "graphLeast", apart := false, narrowed := true }
def GraphLeastUptoSaid : Prop := graphLeastUptoRow.holds Try.pinned (OpenSpec.upto graphLeastSpec)

/-- 'caulkerlaw21.GraphShut', WHERE WHAT IT READS IS OF BULK AT MOST 1048576: true; the input reads as it did. -/
def graphShutUptoRow : OpenClaim := { program := "ytefgfnhhoidbdaa", sum := "007403649b3f256c5c25ffc0bb39068bd0bdde6a3cb3161ef127cd7a7ed37efe", func := "caulker/caulkerlaw21.GraphShut", spec := "graphShut", apart := false, narrowed := true }
def GraphShutUptoSaid : Prop := graphShutUptoRow.holds Try.pinned (OpenSpec.upto graphShutSpec)

/-- 'caulkerlaw21.GraphWithout', WHERE WHAT IT READS IS OF BULK AT MOST 1048576: true; the input reads as it did. -/
def graphWithoutUptoRow : OpenClaim := { program := "ytefgfnhhoidbdaa", sum := "007403649b3f256c5c25ffc0bb39068bd0bdde6a3cb3161ef127cd7a7ed37efe", func := "caulker/caulkerlaw21.GraphWithout", spec := "graphWithout", apart := false, narrowed := true }
def GraphWithoutUptoSaid : Prop := graphWithoutUptoRow.holds Try.pinned (OpenSpec.upto graphWithoutSpec)

/-- 'caulkerlaw15.HeapPlays', WHERE WHAT IT READS IS OF BULK AT MOST 1048576: true; the input reads as it did. -/
def heapPlaysUptoRow : OpenClaim := { program := "ytefgfnhhoidbdaa", sum := "007403649b3f256c5c25ffc0bb39068bd0bdde6a3cb3161ef127cd7a7ed37efe", func := "caulker/caulkerlaw15.HeapPlays", spec := "heapPlays", apart := false, narrowed := true }
def HeapPlaysUptoSaid : Prop := heapPlaysUptoRow.holds Try.pinned (OpenSpec.upto heapPlaysSpec)

/-- 'caulkerlaw15.HeapFull', WHERE WHAT IT READS IS OF BULK AT MOST 1048576: true; the input reads as it did. -/
def heapFullUptoRow : OpenClaim := { program := "ytefgfnhhoidbdaa", sum := "007403649b3f256c5c25ffc0bb39068bd0bdde6a3cb3161ef127cd7a7ed37efe", func := "caulker/caulkerlaw15.HeapFull", spec := "heapFull", apart := false, narrowed := true }
def HeapFullUptoSaid : Prop := heapFullUptoRow.holds Try.pinned (OpenSpec.upto heapFullSpec)

/-- 'caulkerlaw21.GraphPaths', WHERE WHAT IT READS IS OF BULK AT MOST 1048576: true; the input reads as it did. -/
def graphPathsUptoRow : OpenClaim := { program := "ytefgfnhhoidbdaa", sum := "007403649b3f256c5c25ffc0bb39068bd0bdde6a3cb3161ef127cd7a7ed37efe", func := "caulker/caulkerlaw21.GraphPaths", spec := "graphPaths", apart := false, narrowed := true }
def GraphPathsUptoSaid : Prop := graphPathsUptoRow.holds Try.pinned (OpenSpec.upto graphPathsSpec)

end Rows
end Go.Proofs.Ytefgfnhhoidbdaa
