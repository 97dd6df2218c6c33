/-
  No cell of these rows narrows 'for every input' (looked for: loops, veiled, ifaces, maps, wideKeys, modest, calm, conditions, laid).
  DERIVED. THE GIVEN ROWS OF THIS SEAT. 11 by the template 'for every input the law returns true; each argument reads behind the call as it read before'; 0 by the template 'total and deterministic' (their statements: YtfnemjejfccecaaTotals.lean).
  GIVEN WITH THE SEED: the statements are not yours to turn. If you find one false, say at which input.
  Laid BY PROGRAM, IN A SANDBOX (cutbox-rows.mjs): the forced cells as the released guide's own fill.sh prints them over the translation effc6e2851ccc15e… (all of the seat's roots in one cut). By AI agents, Wed Nov 11 2026. No macro, syntax, notation, axiom, sorry.
-/
import Derived.Test.YtfnemjejfccecaaChecked
import GoSem.Claim
import GoSem.ClaimJoined
import GoSem.ClaimMapViews
import Derived.JoinedTies
import Derived.KernelRfl
namespace Go.Proofs.Ytfnemjejfccecaa
/- THE CELL 'sum', in the pinned program and in every row, IS THE sha256 OF THE DUMP (.gsa) THAT YtfnemjejfccecaaProg.lean LOADS. Nothing in Lean hashes anything: it is a label: what it is worth is what the hold of that sum in a sandbox is worth. -/
noncomputable def Try.pinned : Pinned := { name := "ytfnemjejfccecaa", sum := "effc6e2851ccc15eca1fe259c7bf82b04d2a31b3c9542c312a7fa0944feaa690", checked := Try.checked }
namespace Rows
def none {H : Type} : Left H := { results := [], args := [] }

/-- 'caulkerlaw01.SpanMakes': WHATEVER THE INPUT: true; the input reads as it did. -/
def spanMakesSpec : ChangeSpec := { name := "spanMakes", fn := fun _ => fun
  | [d1, d2, d3] => { results := [.lit (.bool true)], args := [d1, d2, d3] }
  | _ => none }
def spanMakesRow : OpenClaim := { program := "ytfnemjejfccecaa", sum := "effc6e2851ccc15eca1fe259c7bf82b04d2a31b3c9542c312a7fa0944feaa690", func := "caulker/caulkerlaw01.SpanMakes", spec := "spanMakes", apart := false }
def SpanMakesSaid : Prop := spanMakesRow.holds Try.pinned (OpenSpec.ofChange spanMakesSpec)

/-- ITS FALSE NEIGHBOUR: 'it returns false'. Refute it at one input. -/
def spanMakesWrong : ChangeSpec := { name := "spanMakes", fn := fun _ => fun
  | [d1, d2, d3] => { results := [.lit (.bool false)], args := [d1, d2, d3] }
  | _ => none }
def SpanMakesWrongFalsely : Prop := spanMakesRow.holds Try.pinned (OpenSpec.ofChange spanMakesWrong)

/-- 'caulkerlaw01.SpanTexts': WHATEVER THE INPUT: true; the input reads as it did. -/
def spanTextsSpec : ChangeSpec := { name := "spanTexts", fn := fun _ => fun
  | [d1, d2] => { results := [.lit (.bool true)], args := [d1, d2] }
  | _ => none }
def spanTextsRow : OpenClaim := { program := "ytfnemjejfccecaa", sum := "effc6e2851ccc15eca1fe259c7bf82b04d2a31b3c9542c312a7fa0944feaa690", func := "caulker/caulkerlaw01.SpanTexts", spec := "spanTexts", apart := false }
def SpanTextsSaid : Prop := spanTextsRow.holds Try.pinned (OpenSpec.ofChange spanTextsSpec)

/-- ITS FALSE NEIGHBOUR: 'it returns false'. Refute it at one input. -/
def spanTextsWrong : ChangeSpec := { name := "spanTexts", fn := fun _ => fun
  | [d1, d2] => { results := [.lit (.bool false)], args := [d1, d2] }
  | _ => none }
def SpanTextsWrongFalsely : Prop := spanTextsRow.holds Try.pinned (OpenSpec.ofChange spanTextsWrong)

/-- 'caulkerlaw01.SpanMoves': WHATEVER THE INPUT: true; the input reads as it did. -/
def spanMovesSpec : ChangeSpec := { name := "spanMoves", fn := fun _ => fun
  | [d1, d2] => { results := [.lit (.bool true)], args := [d1, d2] }
  | _ => none }
def spanMovesRow : OpenClaim := { program := "ytfnemjejfccecaa", sum := "effc6e2851ccc15eca1fe259c7bf82b04d2a31b3c9542c312a7fa0944feaa690", func := "caulker/caulkerlaw01.SpanMoves", spec := "spanMoves", apart := false }
def SpanMovesSaid : Prop := spanMovesRow.holds Try.pinned (OpenSpec.ofChange spanMovesSpec)

/-- ITS FALSE NEIGHBOUR: 'it returns false'. Refute it at one input. -/
def spanMovesWrong : ChangeSpec := { name := "spanMoves", fn := fun _ => fun
  | [d1, d2] => { results := [.lit (.bool false)], args := [d1, d2] }
  | _ => none }
def SpanMovesWrongFalsely : Prop := spanMovesRow.holds Try.pinned (OpenSpec.ofChange spanMovesWrong)

/-- 'caulkerlaw01.SpanCovers': WHATEVER THE INPUT: true; the input reads as it did. -/
def spanCoversSpec : ChangeSpec := { name := "spanCovers", fn := fun _ => fun
  | [d] => { results := [.lit (.bool true)], args := [d] }
  | _ => none }
def spanCoversRow : OpenClaim := { program := "ytfnemjejfccecaa", sum := "effc6e2851ccc15eca1fe259c7bf82b04d2a31b3c9542c312a7fa0944feaa690", func := "caulker/caulkerlaw01.SpanCovers", spec := "spanCovers", apart := false }
def SpanCoversSaid : Prop := spanCoversRow.holds Try.pinned (OpenSpec.ofChange spanCoversSpec)

/-- ITS FALSE NEIGHBOUR: 'it returns false'. Refute it at one input. -/
def spanCoversWrong : ChangeSpec := { name := "spanCovers", fn := fun _ => fun
  | [d] => { results := [.lit (.bool false)], args := [d] }
  | _ => none }
def SpanCoversWrongFalsely : Prop := spanCoversRow.holds Try.pinned (OpenSpec.ofChange spanCoversWrong)

/-- 'caulkerlaw01.SpanPairs': WHATEVER THE INPUT: true; the input reads as it did. -/
def spanPairsSpec : ChangeSpec := { name := "spanPairs", fn := fun _ => fun
  | [d1, d2] => { results := [.lit (.bool true)], args := [d1, d2] }
  | _ => none }
def spanPairsRow : OpenClaim := { program := "ytfnemjejfccecaa", sum := "effc6e2851ccc15eca1fe259c7bf82b04d2a31b3c9542c312a7fa0944feaa690", func := "caulker/caulkerlaw01.SpanPairs", spec := "spanPairs", apart := false }
def SpanPairsSaid : Prop := spanPairsRow.holds Try.pinned (OpenSpec.ofChange spanPairsSpec)

/-- ITS FALSE NEIGHBOUR: 'it returns false'. Refute it at one input. -/
def spanPairsWrong : ChangeSpec := { name := "spanPairs", fn := fun _ => fun
  | [d1, d2] => { results := [.lit (.bool false)], args := [d1, d2] }
  | _ => none }
def SpanPairsWrongFalsely : Prop := spanPairsRow.holds Try.pinned (OpenSpec.ofChange spanPairsWrong)

/-- 'caulkerlaw01.SpanGaps': WHATEVER THE INPUT: true; the input reads as it did. -/
def spanGapsSpec : ChangeSpec := { name := "spanGaps", fn := fun _ => fun
  | [d1, d2] => { results := [.lit (.bool true)], args := [d1, d2] }
  | _ => none }
def spanGapsRow : OpenClaim := { program := "ytfnemjejfccecaa", sum := "effc6e2851ccc15eca1fe259c7bf82b04d2a31b3c9542c312a7fa0944feaa690", func := "caulker/caulkerlaw01.SpanGaps", spec := "spanGaps", apart := false }
def SpanGapsSaid : Prop := spanGapsRow.holds Try.pinned (OpenSpec.ofChange spanGapsSpec)

/-- ITS FALSE NEIGHBOUR: 'it returns false'. Refute it at one input. -/
def spanGapsWrong : ChangeSpec := { name := "spanGaps", fn := fun _ => fun
  | [d1, d2] => { results := [.lit (.bool false)], args := [d1, d2] }
  | _ => none }
def SpanGapsWrongFalsely : Prop := spanGapsRow.holds Try.pinned (OpenSpec.ofChange spanGapsWrong)

/-- 'caulkerlaw03.EditApplies': WHATEVER THE INPUT: true; the input reads as it did. -/
def editAppliesSpec : ChangeSpec := { name := "editApplies", fn := fun _ => fun
  | [d1, d2] => { results := [.lit (.bool true)], args := [d1, d2] }
  | _ => none }
def editAppliesRow : OpenClaim := { program := "ytfnemjejfccecaa", sum := "effc6e2851ccc15eca1fe259c7bf82b04d2a31b3c9542c312a7fa0944feaa690", func := "caulker/caulkerlaw03.EditApplies", spec := "editApplies", inPlace := ["internal/abi.NoEscape"], apart := false }
def EditAppliesSaid : Prop := editAppliesRow.holds Try.pinned (OpenSpec.ofChange editAppliesSpec)

/-- ITS FALSE NEIGHBOUR: 'it returns false'. Refute it at one input. -/
def editAppliesWrong : ChangeSpec := { name := "editApplies", fn := fun _ => fun
  | [d1, d2] => { results := [.lit (.bool false)], args := [d1, d2] }
  | _ => none }
def EditAppliesWrongFalsely : Prop := editAppliesRow.holds Try.pinned (OpenSpec.ofChange editAppliesWrong)

/-- 'caulkerlaw03.EditInverts': WHATEVER THE INPUT: true; the input reads as it did. -/
def editInvertsSpec : ChangeSpec := { name := "editInverts", fn := fun _ => fun
  | [d1, d2] => { results := [.lit (.bool true)], args := [d1, d2] }
  | _ => none }
def editInvertsRow : OpenClaim := { program := "ytfnemjejfccecaa", sum := "effc6e2851ccc15eca1fe259c7bf82b04d2a31b3c9542c312a7fa0944feaa690", func := "caulker/caulkerlaw03.EditInverts", spec := "editInverts", inPlace := ["internal/abi.NoEscape"], apart := false }
def EditInvertsSaid : Prop := editInvertsRow.holds Try.pinned (OpenSpec.ofChange editInvertsSpec)

/-- ITS FALSE NEIGHBOUR: 'it returns false'. Refute it at one input. -/
def editInvertsWrong : ChangeSpec := { name := "editInverts", fn := fun _ => fun
  | [d1, d2] => { results := [.lit (.bool false)], args := [d1, d2] }
  | _ => none }
def EditInvertsWrongFalsely : Prop := editInvertsRow.holds Try.pinned (OpenSpec.ofChange editInvertsWrong)

/-- 'caulkerlaw03.EditLimits': WHATEVER THE INPUT: true; the input reads as it did. -/
def editLimitsSpec : ChangeSpec := { name := "editLimits", fn := fun _ => fun
  | [d1, d2] => { results := [.lit (.bool true)], args := [d1, d2] }
  | _ => none }
def editLimitsRow : OpenClaim := { program := "ytfnemjejfccecaa", sum := "effc6e2851ccc15eca1fe259c7bf82b04d2a31b3c9542c312a7fa0944feaa690", func := "caulker/caulkerlaw03.EditLimits", spec := "editLimits", inPlace := ["internal/abi.NoEscape"], apart := false }
def EditLimitsSaid : Prop := editLimitsRow.holds Try.pinned (OpenSpec.ofChange editLimitsSpec)

/-- ITS FALSE NEIGHBOUR: 'it returns false'. Refute it at one input. -/
def editLimitsWrong : ChangeSpec := { name := "editLimits", fn := fun _ => fun
  | [d1, d2] => { results := [.lit (.bool false)], args := [d1, d2] }
  | _ => none }
def EditLimitsWrongFalsely : Prop := editLimitsRow.holds Try.pinned (OpenSpec.ofChange editLimitsWrong)

/-- 'caulkerlaw03.EditTidies': WHATEVER THE INPUT: true; the input reads as it did. -/
def editTidiesSpec : ChangeSpec := { name := "editTidies", fn := fun _ => fun
  | [d1, d2] => { results := [.lit (.bool true)], args := [d1, d2] }
  | _ => none }
def editTidiesRow : OpenClaim := { program := "ytfnemjejfccecaa", sum := "effc6e2851ccc15eca1fe259c7bf82b04d2a31b3c9542c312a7fa0944feaa690", func := "caulker/caulkerlaw03.EditTidies", spec := "editTidies", inPlace := ["internal/abi.NoEscape"], apart := false }
def EditTidiesSaid : Prop := editTidiesRow.holds Try.pinned (OpenSpec.ofChange editTidiesSpec)

/-- ITS FALSE NEIGHBOUR: 'it returns false'. Refute it at one input. -/
def editTidiesWrong : ChangeSpec := { name := "editTidies", fn := fun _ => fun
  | [d1, d2] => { results := [.lit (.bool false)], args := [d1, d2] }
  | _ => none }
def EditTidiesWrongFalsely : Prop := editTidiesRow.holds Try.pinned (OpenSpec.ofChange editTidiesWrong)

/-- 'caulkerlaw03.EditThen': WHATEVER THE INPUT: true; the input reads as it did. -/
def editThenSpec : ChangeSpec := { name := "editThen", fn := fun _ => fun
  | [d1, d2, d3] => { results := [.lit (.bool true)], args := [d1, d2, d3] }
  | _ => none }
def editThenRow : OpenClaim := { program := "ytfnemjejfccecaa", sum := "effc6e2851ccc15eca1fe259c7bf82b04d2a31b3c9542c312a7fa0944feaa690", func := "caulker/caulkerlaw03.EditThen", spec := "editThen", inPlace := ["internal/abi.NoEscape"], apart := false }
def EditThenSaid : Prop := editThenRow.holds Try.pinned (OpenSpec.ofChange editThenSpec)

/-- ITS FALSE NEIGHBOUR: 'it returns false'. Refute it at one input. -/
def editThenWrong : ChangeSpec := { name := "editThen", fn := fun _ => fun
  | [d1, d2, d3] => { results := [.lit (.bool false)], args := [d1, d2, d3] }
  | _ => none }
def EditThenWrongFalsely : Prop := editThenRow.holds Try.pinned (OpenSpec.ofChange editThenWrong)

/- THE SECOND FORM. 'bulk': how many values and letters a reading holds, each counted each time it is reached (what is shared counts as often as it is met; a slice's spare places count too). A statement '..UptoSaid' is the law's where the arguments, and the package variables that the reading takes, are together of bulk at most 1048576: NARROWER than '..Said'. Prove '..Said' where nothing that the law and all that it calls make is longer than what came in: it says more and counts as full. Else prove '..UptoSaid'. A law counts once. -/
mutual
def uptoBulk {H : Type} : DataW H → Nat
  | .lit (.string bytes) => bytes.length + 1
  | .lit _ => 1
  | .nil => 1
  | .ptr d => uptoBulk d + 1
  | .slice elems spare => uptoBulkAll elems + uptoBulkAll spare + 1
  | .agg parts => uptoBulkAll parts + 1
  | .iface _ d => uptoBulk d + 1
  | .map entries => uptoBulkEntries entries + 1
  | .held _ => 1
def uptoBulkAll {H : Type} : List (DataW H) → Nat
  | [] => 0
  | d :: r => uptoBulk d + uptoBulkAll r
def uptoBulkEntries {H : Type} : List (Lit × DataW H) → Nat
  | [] => 0
  | x :: r => uptoBulkEntry x + uptoBulkEntries r
def uptoBulkEntry {H : Type} : Lit × DataW H → Nat
  | (.string bytes, d) => bytes.length + uptoBulk d + 1
  | (_, d) => uptoBulk d + 1
 end
def uptoSmall : (H : Type) → List (DataW H) → Bool := fun _ ds => decide (uptoBulkAll ds ≤ 1048576)
def OpenSpec.upto (s : _root_.Go.ChangeSpec) : _root_.Go.OpenSpec := { _root_.Go.OpenSpec.ofChange s with cond := some uptoSmall }

/-- 'caulkerlaw01.SpanMakes', WHERE WHAT IT READS IS OF BULK AT MOST 1048576: true; the input reads as it did. -/
def spanMakesUptoRow : OpenClaim := { program := "ytfnemjejfccecaa", sum := "effc6e2851ccc15eca1fe259c7bf82b04d2a31b3c9542c312a7fa0944feaa690", func := "caulker/caulkerlaw01.SpanMakes", spec := "spanMakes", apart := false, narrowed := true }
def SpanMakesUptoSaid : Prop := spanMakesUptoRow.holds Try.pinned (OpenSpec.upto spanMakesSpec)

/-- 'caulkerlaw01.SpanTexts', WHERE WHAT IT READS IS OF BULK AT MOST 1048576: true; the input reads as it did. -/
def spanTextsUptoRow : OpenClaim := { program := "ytfnemjejfccecaa", sum := "effc6e2851ccc15eca1fe259c7bf82b04d2a31b3c9542c312a7fa0944feaa690", func := "caulker/caulkerlaw01.SpanTexts", spec := "spanTexts", apart := false, narrowed := true }
def SpanTextsUptoSaid : Prop := spanTextsUptoRow.holds Try.pinned (OpenSpec.upto spanTextsSpec)

/-- 'caulkerlaw01.SpanMoves', WHERE WHAT IT READS IS OF BULK AT MOST 1048576: true; the input reads as it did. -/
def spanMovesUptoRow : OpenClaim := { program := "ytfnemjejfccecaa", sum := "effc6e2851ccc15eca1fe259c7bf82b04d2a31b3c9542c312a7fa0944feaa690", func := "caulker/caulkerlaw01.SpanMoves", spec := "spanMoves", apart := false, narrowed := true }
def SpanMovesUptoSaid : Prop := spanMovesUptoRow.holds Try.pinned (OpenSpec.upto spanMovesSpec)

/-- 'caulkerlaw01.SpanCovers', WHERE WHAT IT READS IS OF BULK AT MOST 1048576: true; the input reads as it did. -/
def spanCoversUptoRow : OpenClaim := { program := "ytfnemjejfccecaa", sum := "effc6e2851ccc15eca1fe259c7bf82b04d2a31b3c9542c312a7fa0944feaa690", func := "caulker/caulkerlaw01.SpanCovers", spec := "spanCovers", apart := false, narrowed := true }
def SpanCoversUptoSaid : Prop := spanCoversUptoRow.holds Try.pinned (OpenSpec.upto spanCoversSpec)

/-- 'caulkerlaw01.SpanPairs', WHERE WHAT IT READS IS OF BULK AT MOST 1048576: true; the input reads as it did. -/
def spanPairsUptoRow : OpenClaim := { program := "ytfnemjejfccecaa", sum := "effc6e2851ccc15eca1fe259c7bf82b04d2a31b3c9542c312a7fa0944feaa690", func := "caulker/caulkerlaw01.SpanPairs", spec := "spanPairs", apart := false, narrowed := true }
def SpanPairsUptoSaid : Prop := spanPairsUptoRow.holds Try.pinned (OpenSpec.upto spanPairsSpec)

/-- 'caulkerlaw01.SpanGaps', WHERE WHAT IT READS IS OF BULK AT MOST 1048576: true; the input reads as it did. -/
def spanGapsUptoRow : OpenClaim := { program := "ytfnemjejfccecaa", sum := "effc6e2851ccc15eca1fe259c7bf82b04d2a31b3c9542c312a7fa0944feaa690", func := "caulker/caulkerlaw01.SpanGaps", spec := "spanGaps", apart := false, narrowed := true }
def SpanGapsUptoSaid : Prop := spanGapsUptoRow.holds Try.pinned (OpenSpec.upto spanGapsSpec)

/-- 'caulkerlaw03.EditApplies', WHERE WHAT IT READS IS OF BULK AT MOST 1048576: true; the input reads as it did. -/
def editAppliesUptoRow : OpenClaim := { program := "ytfnemjejfccecaa", sum := "effc6e2851ccc15eca1fe259c7bf82b04d2a31b3c9542c312a7fa0944feaa690", func := "caulker/caulkerlaw03.EditApplies", spec := "editApplies", inPlace := ["internal/abi.NoEscape"], apart := false, narrowed := true }
def EditAppliesUptoSaid : Prop := editAppliesUptoRow.holds Try.pinned (OpenSpec.upto editAppliesSpec)

/-- 'caulkerlaw03.EditInverts', WHERE WHAT IT READS IS OF BULK AT MOST 1048576: true; the input reads as it did. -/
def editInvertsUptoRow : OpenClaim := { program := "ytfnemjejfccecaa", sum := "effc6e2851ccc15eca1fe259c7bf82b04d2a31b3c9542c312a7fa0944feaa690", func := "caulker/caulkerlaw03.EditInverts", spec := "editInverts", inPlace := ["internal/abi.NoEscape"], apart := false, narrowed := true }
def EditInvertsUptoSaid : Prop := editInvertsUptoRow.holds Try.pinned (OpenSpec.upto editInvertsSpec)

/-- 'caulkerlaw03.EditLimits', WHERE WHAT IT READS IS OF BULK AT MOST 1048576: true; the input reads as it did. -/
def editLimitsUptoRow : OpenClaim := { program := "ytfnemjejfccecaa", sum := "effc6e2851ccc15eca1fe259c7bf82b04d2a31b3c9542c312a7fa0944feaa690", func := "caulker/caulkerlaw03.EditLimits", spec := "editLimits", inPlace := ["internal/abi.NoEscape"], apart := false, narrowed := true }
def EditLimitsUptoSaid : Prop := editLimitsUptoRow.holds Try.pinned (OpenSpec.upto editLimitsSpec)

/-- 'caulkerlaw03.EditTidies', WHERE WHAT IT READS IS OF BULK AT MOST 1048576: true; the input reads as it did. -/
def editTidiesUptoRow : OpenClaim := { program := "ytfnemjejfccecaa", sum := "effc6e2851ccc15eca1fe259c7bf82b04d2a31b3c9542c312a7fa0944feaa690", func := "caulker/caulkerlaw03.EditTidies", spec := "editTidies", inPlace := ["internal/abi.NoEscape"], apart := false, narrowed := true }
def EditTidiesUptoSaid : Prop := editTidiesUptoRow.holds Try.pinned (OpenSpec.upto editTidiesSpec)

/-- 'caulkerlaw03.EditThen', WHERE WHAT IT READS IS OF BULK AT MOST 1048576: true; the input reads as it did. -/
def editThenUptoRow : OpenClaim := { program := "ytfnemjejfccecaa", sum := "effc6e2851ccc15eca1fe259c7bf82b04d2a31b3c9542c312a7fa0944feaa690", func := "caulker/caulkerlaw03.EditThen", spec := "editThen", inPlace := ["internal/abi.NoEscape"], apart := false, narrowed := true }
def EditThenUptoSaid : Prop := editThenUptoRow.holds Try.pinned (OpenSpec.upto editThenSpec)

end Rows
end Go.Proofs.Ytfnemjejfccecaa
