/-
  DERIVED. GIVEN WITH THE SEED: THE CARDS: each row of YtmikdofplolmjaaGreatDoorRows.lean that lists a variable, with what it lists TIED to the program's text (the seventh form; the later family's looks); each row that meets fmt, with fmt's text TOLD by the authors' own Lean function (tested against real Go, not proved from fmt's source: count such statements apart). THE CARD IS WHAT COUNTS. Prove the row's statement (the work); the ties are given (YtmikdofplolmjaaGreatDoorTie.lean); close each card by the builder's one call (the guide's Derived/Test/ToyasCard.lean, 'card_holds'). Laid BY PROGRAM, IN A SANDBOX (cutbox-door.mjs). By AI agents, Wed Nov 11 2026. No macro, syntax, notation, axiom, sorry.
-/
import Derived.Test.YtmikdofplolmjaaGreatDoorRows
import GoSem.ClaimSeven
namespace Go.Proofs.YtmikdofplolmjaaGreatDoor
namespace Rows

/-- THE TIED CARD OF 'caulkertop.WholeTokens'. -/
def wholeTokensCard : Claim7 := { stood := { row := wholeTokensRow, standIns := [], harness := (true, "990727001494e279a7fd54ae61d1043ac17de6791e4e587fd28c99300267c85f"), looks := true }, kinds := [], alts := [], laidByText := true, laidKinds := [.data, .data, .widerDeep, .widerDeep, .data, .data, .data, .data, .data, .sentinel, .sentinel, .pinned, .pinned], laidTests := true, laidLooks := .later }
def WholeTokensCardSaid : Prop := Claim7.holds Tryz.pinned (.plain (OpenSpec.ofChange wholeTokensSpec)) wholeTokensCard

/-- THE SECOND FORM's CARD OF 'caulkertop.WholeTokens'. -/
def wholeTokensUptoCard : Claim7 := { stood := { row := wholeTokensUptoRow, standIns := [], harness := (true, "990727001494e279a7fd54ae61d1043ac17de6791e4e587fd28c99300267c85f"), looks := true }, kinds := [], alts := [], laidByText := true, laidKinds := [.data, .data, .widerDeep, .widerDeep, .data, .data, .data, .data, .data, .sentinel, .sentinel, .pinned, .pinned], laidTests := true, laidLooks := .later }
def WholeTokensUptoCardSaid : Prop := Claim7.holds Tryz.pinned (.plain (OpenSpec.upto wholeTokensSpec)) wholeTokensUptoCard
end Rows
end Go.Proofs.YtmikdofplolmjaaGreatDoor
