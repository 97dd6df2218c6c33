/-
  DERIVED. GIVEN WITH THE SEED: THE CARDS: each row of YtbnopcndjdpnkaaDoorRows.lean that lists a variable, with what it lists TIED to the program's text (the seventh form; the later family's looks); each row that meets fmt, with fmt's text TOLD by the authors' own Lean function (tested against real Go, not proved from fmt's source: count such statements apart). THE CARD IS WHAT COUNTS. Prove the row's statement (the work); the ties are given (YtbnopcndjdpnkaaDoorTie.lean); close each card by the builder's one call (the guide's Derived/Test/ToyasCard.lean, 'card_holds'). Laid BY PROGRAM, IN A SANDBOX (cutbox-door.mjs). By AI agents, Wed Nov 11 2026. No macro, syntax, notation, axiom, sorry.
-/
import Derived.Test.YtbnopcndjdpnkaaDoorRows
import GoSem.ClaimSeven
namespace Go.Proofs.YtbnopcndjdpnkaaDoor
namespace Rows

/-- THE TIED CARD OF 'caulkerlaw05.NumInts'. -/
def numIntsCard : Claim7 := { stood := { row := numIntsRow, standIns := [], harness := (true, "9354b9465465abe70b8faf5792f410ac051740e2a24c1578297bfaf7217fc5bf"), looks := true }, kinds := [], alts := [], laidByText := true, laidKinds := [.data, .data, .widerDeep, .widerDeep, .data, .data, .data, .data, .data, .sentinel, .sentinel, .pinned, .pinned], laidTests := true, laidLooks := .later }
def NumIntsCardSaid : Prop := Claim7.holds Tryd.pinned (.plain (OpenSpec.ofChange numIntsSpec)) numIntsCard

/-- THE TIED CARD OF 'caulkerlaw05.NumFloats'. -/
def numFloatsCard : Claim7 := { stood := { row := numFloatsRow, standIns := [], harness := (true, "9354b9465465abe70b8faf5792f410ac051740e2a24c1578297bfaf7217fc5bf"), looks := true }, kinds := [], alts := [], laidByText := true, laidKinds := [.data, .data, .widerDeep, .widerDeep, .data, .data, .data, .data, .data, .sentinel, .sentinel, .pinned, .pinned], laidTests := true, laidLooks := .later }
def NumFloatsCardSaid : Prop := Claim7.holds Tryd.pinned (.plain (OpenSpec.ofChange numFloatsSpec)) numFloatsCard

/-- THE TIED CARD OF 'caulkerlaw05.NumTurns'. -/
def numTurnsCard : Claim7 := { stood := { row := numTurnsRow, standIns := [], harness := (true, "9354b9465465abe70b8faf5792f410ac051740e2a24c1578297bfaf7217fc5bf"), looks := true }, kinds := [], alts := [], laidByText := true, laidKinds := [.data, .data, .widerDeep, .widerDeep, .data, .data, .data, .data, .data, .sentinel, .sentinel, .pinned, .pinned], laidTests := true, laidLooks := .later }
def NumTurnsCardSaid : Prop := Claim7.holds Tryd.pinned (.plain (OpenSpec.ofChange numTurnsSpec)) numTurnsCard

/-- THE TIED CARD OF 'caulkerlaw05.NumWhole'. -/
def numWholeCard : Claim7 := { stood := { row := numWholeRow, standIns := [], harness := (true, "9354b9465465abe70b8faf5792f410ac051740e2a24c1578297bfaf7217fc5bf"), looks := true }, kinds := [], alts := [], laidByText := true, laidKinds := [.data, .data, .widerDeep, .widerDeep, .data, .data, .data, .data, .data, .sentinel, .sentinel, .pinned, .pinned], laidTests := true, laidLooks := .later }
def NumWholeCardSaid : Prop := Claim7.holds Tryd.pinned (.plain (OpenSpec.ofChange numWholeSpec)) numWholeCard

/-- THE TIED CARD OF 'caulkerlaw05.NumCompares'. -/
def numComparesCard : Claim7 := { stood := { row := numComparesRow, standIns := [], harness := (true, "9354b9465465abe70b8faf5792f410ac051740e2a24c1578297bfaf7217fc5bf"), looks := true }, kinds := [], alts := [], laidByText := true, laidKinds := [.data, .data, .widerDeep, .widerDeep, .data, .data, .data, .data, .data, .sentinel, .sentinel, .pinned, .pinned], laidTests := true, laidLooks := .later }
def NumComparesCardSaid : Prop := Claim7.holds Tryd.pinned (.plain (OpenSpec.ofChange numComparesSpec)) numComparesCard

/-- THE TIED CARD OF 'caulkerlaw05.NumEdges'. -/
def numEdgesCard : Claim7 := { stood := { row := numEdgesRow, standIns := [], harness := (true, "9354b9465465abe70b8faf5792f410ac051740e2a24c1578297bfaf7217fc5bf"), looks := true }, kinds := [], alts := [], laidByText := true, laidKinds := [.data, .data, .widerDeep, .widerDeep, .data, .data, .data, .data, .data, .sentinel, .sentinel, .pinned, .pinned], laidTests := true, laidLooks := .later }
def NumEdgesCardSaid : Prop := Claim7.holds Tryd.pinned (.plain (OpenSpec.ofChange numEdgesSpec)) numEdgesCard

/-- THE TIED CARD OF 'caulkerlaw05.NumLaws'. -/
def numLawsCard : Claim7 := { stood := { row := numLawsRow, standIns := [], harness := (true, "9354b9465465abe70b8faf5792f410ac051740e2a24c1578297bfaf7217fc5bf"), looks := true }, kinds := [], alts := [], laidByText := true, laidKinds := [.data, .data, .widerDeep, .widerDeep, .data, .data, .data, .data, .data, .sentinel, .sentinel, .pinned, .pinned], laidTests := true, laidLooks := .later }
def NumLawsCardSaid : Prop := Claim7.holds Tryd.pinned (.plain (OpenSpec.ofChange numLawsSpec)) numLawsCard

/-- THE SECOND FORM's CARD OF 'caulkerlaw05.NumInts'. -/
def numIntsUptoCard : Claim7 := { stood := { row := numIntsUptoRow, standIns := [], harness := (true, "9354b9465465abe70b8faf5792f410ac051740e2a24c1578297bfaf7217fc5bf"), looks := true }, kinds := [], alts := [], laidByText := true, laidKinds := [.data, .data, .widerDeep, .widerDeep, .data, .data, .data, .data, .data, .sentinel, .sentinel, .pinned, .pinned], laidTests := true, laidLooks := .later }
def NumIntsUptoCardSaid : Prop := Claim7.holds Tryd.pinned (.plain (OpenSpec.upto numIntsSpec)) numIntsUptoCard

/-- THE SECOND FORM's CARD OF 'caulkerlaw05.NumFloats'. -/
def numFloatsUptoCard : Claim7 := { stood := { row := numFloatsUptoRow, standIns := [], harness := (true, "9354b9465465abe70b8faf5792f410ac051740e2a24c1578297bfaf7217fc5bf"), looks := true }, kinds := [], alts := [], laidByText := true, laidKinds := [.data, .data, .widerDeep, .widerDeep, .data, .data, .data, .data, .data, .sentinel, .sentinel, .pinned, .pinned], laidTests := true, laidLooks := .later }
def NumFloatsUptoCardSaid : Prop := Claim7.holds Tryd.pinned (.plain (OpenSpec.upto numFloatsSpec)) numFloatsUptoCard

/-- THE SECOND FORM's CARD OF 'caulkerlaw05.NumTurns'. -/
def numTurnsUptoCard : Claim7 := { stood := { row := numTurnsUptoRow, standIns := [], harness := (true, "9354b9465465abe70b8faf5792f410ac051740e2a24c1578297bfaf7217fc5bf"), looks := true }, kinds := [], alts := [], laidByText := true, laidKinds := [.data, .data, .widerDeep, .widerDeep, .data, .data, .data, .data, .data, .sentinel, .sentinel, .pinned, .pinned], laidTests := true, laidLooks := .later }
def NumTurnsUptoCardSaid : Prop := Claim7.holds Tryd.pinned (.plain (OpenSpec.upto numTurnsSpec)) numTurnsUptoCard

/-- THE SECOND FORM's CARD OF 'caulkerlaw05.NumWhole'. -/
def numWholeUptoCard : Claim7 := { stood := { row := numWholeUptoRow, standIns := [], harness := (true, "9354b9465465abe70b8faf5792f410ac051740e2a24c1578297bfaf7217fc5bf"), looks := true }, kinds := [], alts := [], laidByText := true, laidKinds := [.data, .data, .widerDeep, .widerDeep, .data, .data, .data, .data, .data, .sentinel, .sentinel, .pinned, .pinned], laidTests := true, laidLooks := .later }
def NumWholeUptoCardSaid : Prop := Claim7.holds Tryd.pinned (.plain (OpenSpec.upto numWholeSpec)) numWholeUptoCard

/-- THE SECOND FORM's CARD OF 'caulkerlaw05.NumCompares'. -/
def numComparesUptoCard : Claim7 := { stood := { row := numComparesUptoRow, standIns := [], harness := (true, "9354b9465465abe70b8faf5792f410ac051740e2a24c1578297bfaf7217fc5bf"), looks := true }, kinds := [], alts := [], laidByText := true, laidKinds := [.data, .data, .widerDeep, .widerDeep, .data, .data, .data, .data, .data, .sentinel, .sentinel, .pinned, .pinned], laidTests := true, laidLooks := .later }
def NumComparesUptoCardSaid : Prop := Claim7.holds Tryd.pinned (.plain (OpenSpec.upto numComparesSpec)) numComparesUptoCard

/-- THE SECOND FORM's CARD OF 'caulkerlaw05.NumEdges'. -/
def numEdgesUptoCard : Claim7 := { stood := { row := numEdgesUptoRow, standIns := [], harness := (true, "9354b9465465abe70b8faf5792f410ac051740e2a24c1578297bfaf7217fc5bf"), looks := true }, kinds := [], alts := [], laidByText := true, laidKinds := [.data, .data, .widerDeep, .widerDeep, .data, .data, .data, .data, .data, .sentinel, .sentinel, .pinned, .pinned], laidTests := true, laidLooks := .later }
def NumEdgesUptoCardSaid : Prop := Claim7.holds Tryd.pinned (.plain (OpenSpec.upto numEdgesSpec)) numEdgesUptoCard

/-- THE SECOND FORM's CARD OF 'caulkerlaw05.NumLaws'. -/
def numLawsUptoCard : Claim7 := { stood := { row := numLawsUptoRow, standIns := [], harness := (true, "9354b9465465abe70b8faf5792f410ac051740e2a24c1578297bfaf7217fc5bf"), looks := true }, kinds := [], alts := [], laidByText := true, laidKinds := [.data, .data, .widerDeep, .widerDeep, .data, .data, .data, .data, .data, .sentinel, .sentinel, .pinned, .pinned], laidTests := true, laidLooks := .later }
def NumLawsUptoCardSaid : Prop := Claim7.holds Tryd.pinned (.plain (OpenSpec.upto numLawsSpec)) numLawsUptoCard
end Rows
end Go.Proofs.YtbnopcndjdpnkaaDoor
