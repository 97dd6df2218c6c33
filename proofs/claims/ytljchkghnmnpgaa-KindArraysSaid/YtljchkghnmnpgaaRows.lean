/-
  No cell of these rows narrows 'for every input' (looked for: loops, veiled, ifaces, maps, wideKeys, modest, calm, conditions, laid).
  DERIVED. THE GIVEN ROWS OF THIS SEAT. 6 by the template 'for every input the law returns true; each argument reads behind the call as it read before'; 0 by the template 'total and deterministic' (their statements: YtljchkghnmnpgaaTotals.lean).
  GIVEN WITH THE SEED: the statements are not yours to turn. If you find one false, say at which input.
  Laid BY PROGRAM, IN A SANDBOX (cutbox-rows.mjs): the forced cells as the released guide's own fill.sh prints them over the translation d8f80784d34b5b11… (all of the seat's roots in one cut). By AI agents, Wed Nov 11 2026. No macro, syntax, notation, axiom, sorry.
-/
import Derived.Test.YtljchkghnmnpgaaChecked
import GoSem.Claim
import GoSem.ClaimJoined
import GoSem.ClaimMapViews
import Derived.JoinedTies
import Derived.KernelRfl
namespace Go.Proofs.Ytljchkghnmnpgaa
/- THE CELL 'sum', in the pinned program and in every row, IS THE sha256 OF THE DUMP (.gsa) THAT YtljchkghnmnpgaaProg.lean LOADS. Nothing in Lean hashes anything: it is a label: what it is worth is what the hold of that sum in a sandbox is worth. -/
noncomputable def Try.pinned : Pinned := { name := "ytljchkghnmnpgaa", sum := "d8f80784d34b5b11cb05e3c9b2bb4b51dcc673d5d1ac287d96fd5c0e1d75e570", checked := Try.checked }
namespace Rows
def none {H : Type} : Left H := { results := [], args := [] }

/-- 'caulkerlaw10.KindPairs': WHATEVER THE INPUT: true; the input reads as it did. -/
def kindPairsSpec : ChangeSpec := { name := "kindPairs", fn := fun _ => fun
  | [d1, d2] => { results := [.lit (.bool true)], args := [d1, d2] }
  | _ => none }
def kindPairsRow : OpenClaim := { program := "ytljchkghnmnpgaa", sum := "d8f80784d34b5b11cb05e3c9b2bb4b51dcc673d5d1ac287d96fd5c0e1d75e570", func := "caulker/caulkerlaw10.KindPairs", spec := "kindPairs", inPlace := ["internal/abi.NoEscape", "internal/bytealg.MakeNoZero"], apart := false }
def KindPairsSaid : Prop := kindPairsRow.holds Try.pinned (OpenSpec.ofChange kindPairsSpec)

/-- ITS FALSE NEIGHBOUR: 'it returns false'. Refute it at one input. -/
def kindPairsWrong : ChangeSpec := { name := "kindPairs", fn := fun _ => fun
  | [d1, d2] => { results := [.lit (.bool false)], args := [d1, d2] }
  | _ => none }
def KindPairsWrongFalsely : Prop := kindPairsRow.holds Try.pinned (OpenSpec.ofChange kindPairsWrong)

/-- 'caulkerlaw10.KindMarks': WHATEVER THE INPUT: true; the input reads as it did. -/
def kindMarksSpec : ChangeSpec := { name := "kindMarks", fn := fun _ => fun
  | [d1, d2, d3] => { results := [.lit (.bool true)], args := [d1, d2, d3] }
  | _ => none }
def kindMarksRow : OpenClaim := { program := "ytljchkghnmnpgaa", sum := "d8f80784d34b5b11cb05e3c9b2bb4b51dcc673d5d1ac287d96fd5c0e1d75e570", func := "caulker/caulkerlaw10.KindMarks", spec := "kindMarks", inPlace := ["internal/abi.NoEscape", "internal/bytealg.MakeNoZero"], apart := false }
def KindMarksSaid : Prop := kindMarksRow.holds Try.pinned (OpenSpec.ofChange kindMarksSpec)

/-- ITS FALSE NEIGHBOUR: 'it returns false'. Refute it at one input. -/
def kindMarksWrong : ChangeSpec := { name := "kindMarks", fn := fun _ => fun
  | [d1, d2, d3] => { results := [.lit (.bool false)], args := [d1, d2, d3] }
  | _ => none }
def KindMarksWrongFalsely : Prop := kindMarksRow.holds Try.pinned (OpenSpec.ofChange kindMarksWrong)

/-- 'caulkerlaw10.KindArrays': WHATEVER THE INPUT: true; the input reads as it did. -/
def kindArraysSpec : ChangeSpec := { name := "kindArrays", fn := fun _ => fun
  | [d] => { results := [.lit (.bool true)], args := [d] }
  | _ => none }
def kindArraysRow : OpenClaim := { program := "ytljchkghnmnpgaa", sum := "d8f80784d34b5b11cb05e3c9b2bb4b51dcc673d5d1ac287d96fd5c0e1d75e570", func := "caulker/caulkerlaw10.KindArrays", spec := "kindArrays", inPlace := ["internal/abi.NoEscape", "internal/bytealg.MakeNoZero"], apart := false }
def KindArraysSaid : Prop := kindArraysRow.holds Try.pinned (OpenSpec.ofChange kindArraysSpec)

/-- ITS FALSE NEIGHBOUR: 'it returns false'. Refute it at one input. -/
def kindArraysWrong : ChangeSpec := { name := "kindArrays", fn := fun _ => fun
  | [d] => { results := [.lit (.bool false)], args := [d] }
  | _ => none }
def KindArraysWrongFalsely : Prop := kindArraysRow.holds Try.pinned (OpenSpec.ofChange kindArraysWrong)

/-- 'caulkerlaw10.KindOrder': WHATEVER THE INPUT: true; the input reads as it did. -/
def kindOrderSpec : ChangeSpec := { name := "kindOrder", fn := fun _ => fun
  | [d1, d2, d3] => { results := [.lit (.bool true)], args := [d1, d2, d3] }
  | _ => none }
def kindOrderRow : OpenClaim := { program := "ytljchkghnmnpgaa", sum := "d8f80784d34b5b11cb05e3c9b2bb4b51dcc673d5d1ac287d96fd5c0e1d75e570", func := "caulker/caulkerlaw10.KindOrder", spec := "kindOrder", inPlace := ["internal/abi.NoEscape", "internal/bytealg.MakeNoZero"], apart := false }
def KindOrderSaid : Prop := kindOrderRow.holds Try.pinned (OpenSpec.ofChange kindOrderSpec)

/-- ITS FALSE NEIGHBOUR: 'it returns false'. Refute it at one input. -/
def kindOrderWrong : ChangeSpec := { name := "kindOrder", fn := fun _ => fun
  | [d1, d2, d3] => { results := [.lit (.bool false)], args := [d1, d2, d3] }
  | _ => none }
def KindOrderWrongFalsely : Prop := kindOrderRow.holds Try.pinned (OpenSpec.ofChange kindOrderWrong)

/-- 'caulkerlaw10.KindMakes': WHATEVER THE INPUT: true; the input reads as it did. -/
def kindMakesSpec : ChangeSpec := { name := "kindMakes", fn := fun _ => fun
  | [d1, d2, d3] => { results := [.lit (.bool true)], args := [d1, d2, d3] }
  | _ => none }
def kindMakesRow : OpenClaim := { program := "ytljchkghnmnpgaa", sum := "d8f80784d34b5b11cb05e3c9b2bb4b51dcc673d5d1ac287d96fd5c0e1d75e570", func := "caulker/caulkerlaw10.KindMakes", spec := "kindMakes", inPlace := ["internal/abi.NoEscape", "internal/bytealg.MakeNoZero"], apart := false }
def KindMakesSaid : Prop := kindMakesRow.holds Try.pinned (OpenSpec.ofChange kindMakesSpec)

/-- ITS FALSE NEIGHBOUR: 'it returns false'. Refute it at one input. -/
def kindMakesWrong : ChangeSpec := { name := "kindMakes", fn := fun _ => fun
  | [d1, d2, d3] => { results := [.lit (.bool false)], args := [d1, d2, d3] }
  | _ => none }
def KindMakesWrongFalsely : Prop := kindMakesRow.holds Try.pinned (OpenSpec.ofChange kindMakesWrong)

/-- 'caulkerlaw10.KindTells': WHATEVER THE INPUT: true; the input reads as it did. -/
def kindTellsSpec : ChangeSpec := { name := "kindTells", fn := fun _ => fun
  | [d] => { results := [.lit (.bool true)], args := [d] }
  | _ => none }
def kindTellsRow : OpenClaim := { program := "ytljchkghnmnpgaa", sum := "d8f80784d34b5b11cb05e3c9b2bb4b51dcc673d5d1ac287d96fd5c0e1d75e570", func := "caulker/caulkerlaw10.KindTells", spec := "kindTells", inPlace := ["internal/abi.NoEscape", "internal/bytealg.MakeNoZero"], apart := false }
def KindTellsSaid : Prop := kindTellsRow.holds Try.pinned (OpenSpec.ofChange kindTellsSpec)

/-- ITS FALSE NEIGHBOUR: 'it returns false'. Refute it at one input. -/
def kindTellsWrong : ChangeSpec := { name := "kindTells", fn := fun _ => fun
  | [d] => { results := [.lit (.bool false)], args := [d] }
  | _ => none }
def KindTellsWrongFalsely : Prop := kindTellsRow.holds Try.pinned (OpenSpec.ofChange kindTellsWrong)

/- THE SECOND FORM. 'bulk': how many values and letters a reading holds, each counted each time it is reached (what is shared counts as often as it is met; a slice's spare places count too). A statement '..UptoSaid' is the law's where the arguments, and the package variables that the reading takes, are together of bulk at most 1048576: NARROWER than '..Said'. Prove '..Said' where nothing that the law and all that it calls make is longer than what came in: it says more and counts as full. Else prove '..UptoSaid'. A law counts once. -/
mutual
def uptoBulk {H : Type} : DataW H → Nat
  | .lit (.string bytes) => bytes.length + 1
  | .lit _ => 1
  | .nil => 1
  | .ptr d => uptoBulk d + 1
  | .slice elems spare => uptoBulkAll elems + uptoBulkAll spare + 1
  | .agg parts => uptoBulkAll parts + 1
  | .iface _ d => uptoBulk d + 1
  | .map entries => uptoBulkEntries entries + 1
  | .held _ => 1
def uptoBulkAll {H : Type} : List (DataW H) → Nat
  | [] => 0
  | d :: r => uptoBulk d + uptoBulkAll r
def uptoBulkEntries {H : Type} : List (Lit × DataW H) → Nat
  | [] => 0
  | x :: r => uptoBulkEntry x + uptoBulkEntries r
def uptoBulkEntry {H : Type} : Lit × DataW H → Nat
  | (.string bytes, d) => bytes.length + uptoBulk d + 1
  | (_, d) => uptoBulk d + 1
 end
def uptoSmall : (H : Type) → List (DataW H) → Bool := fun _ ds => decide (uptoBulkAll ds ≤ 1048576)
def OpenSpec.upto (s : _root_.Go.ChangeSpec) : _root_.Go.OpenSpec := { _root_.Go.OpenSpec.ofChange s with cond := some uptoSmall }

/-- 'caulkerlaw10.KindPairs', WHERE WHAT IT READS IS OF BULK AT MOST 1048576: true; the input reads as it did. -/
def kindPairsUptoRow : OpenClaim := { program := "ytljchkghnmnpgaa", sum := "d8f80784d34b5b11cb05e3c9b2bb4b51dcc673d5d1ac287d96fd5c0e1d75e570", func := "caulker/caulkerlaw10.KindPairs", spec := "kindPairs", inPlace := ["internal/abi.NoEscape", "internal/bytealg.MakeNoZero"], apart := false, narrowed := true }
def KindPairsUptoSaid : Prop := kindPairsUptoRow.holds Try.pinned (OpenSpec.upto kindPairsSpec)

/-- 'caulkerlaw10.KindMarks', WHERE WHAT IT READS IS OF BULK AT MOST 1048576: true; the input reads as it did. -/
def kindMarksUptoRow : OpenClaim := { program := "ytljchkghnmnpgaa", sum := "d8f80784d34b5b11cb05e3c9b2bb4b51dcc673d5d1ac287d96fd5c0e1d75e570", func := "caulker/caulkerlaw10.KindMarks", spec := "kindMarks", inPlace := ["internal/abi.NoEscape", "internal/bytealg.MakeNoZero"], apart := false, narrowed := true }
def KindMarksUptoSaid : Prop := kindMarksUptoRow.holds Try.pinned (OpenSpec.upto kindMarksSpec)

/-- 'caulkerlaw10.KindArrays', WHERE WHAT IT READS IS OF BULK AT MOST 1048576: true; the input reads as it did. -/
def kindArraysUptoRow : OpenClaim := { program := "ytljchkghnmnpgaa", sum := "d8f80784d34b5b11cb05e3c9b2bb4b51dcc673d5d1ac287d96fd5c0e1d75e570", func := "caulker/caulkerlaw10.KindArrays", spec := "kindArrays", inPlace := ["internal/abi.NoEscape", "internal/bytealg.MakeNoZero"], apart := false, narrowed := true }
def KindArraysUptoSaid : Prop := kindArraysUptoRow.holds Try.pinned (OpenSpec.upto kindArraysSpec)

/-- 'caulkerlaw10.KindOrder', WHERE WHAT IT READS IS OF BULK AT MOST 1048576: true; the input reads as it did. -/
def kindOrderUptoRow : OpenClaim := { program := "ytljchkghnmnpgaa", sum := "d8f80784d34b5b11cb05e3c9b2bb4b51dcc673d5d1ac287d96fd5c0e1d75e570", func := "caulker/caulkerlaw10.KindOrder", spec := "kindOrder", inPlace := ["internal/abi.NoEscape", "internal/bytealg.MakeNoZero"], apart := false, narrowed := true }
def KindOrderUptoSaid : Prop := kindOrderUptoRow.holds Try.pinned (OpenSpec.upto kindOrderSpec)

/-- 'caulkerlaw10.KindMakes', WHERE WHAT IT READS IS OF BULK AT MOST 1048576: true; the input reads as it did. -/
def kindMakesUptoRow : OpenClaim := { program := "ytljchkghnmnpgaa", sum := "d8f80784d34b5b11cb05e3c9b2bb4b51dcc673d5d1ac287d96fd5c0e1d75e570", func := "caulker/caulkerlaw10.KindMakes", spec := "kindMakes", inPlace := ["internal/abi.NoEscape", "internal/bytealg.MakeNoZero"], apart := false, narrowed := true }
def KindMakesUptoSaid : Prop := kindMakesUptoRow.holds Try.pinned (OpenSpec.upto kindMakesSpec)

/-- 'caulkerlaw10.KindTells', WHERE WHAT IT READS IS OF BULK AT MOST 1048576: true; the input reads as it did. -/
def kindTellsUptoRow : OpenClaim := { program := "ytljchkghnmnpgaa", sum := "d8f80784d34b5b11cb05e3c9b2bb4b51dcc673d5d1ac287d96fd5c0e1d75e570", func := "caulker/caulkerlaw10.KindTells", spec := "kindTells", inPlace := ["internal/abi.NoEscape", "internal/bytealg.MakeNoZero"], apart := false, narrowed := true }
def KindTellsUptoSaid : Prop := kindTellsUptoRow.holds Try.pinned (OpenSpec.upto kindTellsSpec)

end Rows
end Go.Proofs.Ytljchkghnmnpgaa
