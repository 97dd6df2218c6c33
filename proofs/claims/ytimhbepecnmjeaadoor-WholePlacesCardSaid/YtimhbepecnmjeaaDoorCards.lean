/-
  DERIVED. GIVEN WITH THE SEED: THE CARDS: each row of YtimhbepecnmjeaaDoorRows.lean that lists a variable, with what it lists TIED to the program's text (the seventh form; the later family's looks); each row that meets fmt, with fmt's text TOLD by the authors' own Lean function (tested against real Go, not proved from fmt's source: count such statements apart). THE CARD IS WHAT COUNTS. Prove the row's statement (the work); the ties are given (YtimhbepecnmjeaaDoorTie.lean); close each card by the builder's one call (the guide's Derived/Test/ToyasCard.lean, 'card_holds'). Laid BY PROGRAM, IN A SANDBOX (cutbox-door.mjs). By AI agents, Wed Nov 11 2026. No macro, syntax, notation, axiom, sorry.
-/
import Derived.Test.YtimhbepecnmjeaaDoorRows
import GoSem.ClaimSeven
namespace Go.Proofs.YtimhbepecnmjeaaDoor
namespace Rows

/-- THE TIED CARD OF 'caulkertop.WholePlaces'. -/
def wholePlacesCard : Claim7 := { stood := { row := wholePlacesRow, standIns := [], harness := (true, "df035afa00309ea41fd295f0686b3f926a41232cf88eeda2bbadf21d116ea869"), looks := false }, kinds := [], alts := [], laidByText := true, laidKinds := [.data, .data, .data], laidTests := true, laidLooks := .later }
def WholePlacesCardSaid : Prop := Claim7.holds Tryd.pinned (.plain (OpenSpec.ofChange wholePlacesSpec)) wholePlacesCard

/-- THE TIED CARD OF 'caulkerlaw02.LinePlaces'. -/
def linePlacesCard : Claim7 := { stood := { row := linePlacesRow, standIns := [], harness := (true, "df035afa00309ea41fd295f0686b3f926a41232cf88eeda2bbadf21d116ea869"), looks := false }, kinds := [], alts := [], laidByText := true, laidKinds := [.data, .data, .data], laidTests := true, laidLooks := .later }
def LinePlacesCardSaid : Prop := Claim7.holds Tryd.pinned (.plain (OpenSpec.ofChange linePlacesSpec)) linePlacesCard

/-- THE TIED CARD OF 'caulkerlaw02.LineBytes'. -/
def lineBytesCard : Claim7 := { stood := { row := lineBytesRow, standIns := [], harness := (true, "df035afa00309ea41fd295f0686b3f926a41232cf88eeda2bbadf21d116ea869"), looks := false }, kinds := [], alts := [], laidByText := true, laidKinds := [.data, .data, .data], laidTests := true, laidLooks := .later }
def LineBytesCardSaid : Prop := Claim7.holds Tryd.pinned (.plain (OpenSpec.ofChange lineBytesSpec)) lineBytesCard

/-- THE TIED CARD OF 'caulkerlaw02.LineTexts'. -/
def lineTextsCard : Claim7 := { stood := { row := lineTextsRow, standIns := [], harness := (true, "df035afa00309ea41fd295f0686b3f926a41232cf88eeda2bbadf21d116ea869"), looks := false }, kinds := [], alts := [], laidByText := true, laidKinds := [.data, .data, .data], laidTests := true, laidLooks := .later }
def LineTextsCardSaid : Prop := Claim7.holds Tryd.pinned (.plain (OpenSpec.ofChange lineTextsSpec)) lineTextsCard

/-- THE TIED CARD OF 'caulkerlaw02.LineShows'. -/
def lineShowsCard : Claim7 := { stood := { row := lineShowsRow, standIns := [], harness := (true, "df035afa00309ea41fd295f0686b3f926a41232cf88eeda2bbadf21d116ea869"), looks := false }, kinds := [], alts := [], laidByText := true, laidKinds := [.data, .data, .data], laidTests := true, laidLooks := .later }
def LineShowsCardSaid : Prop := Claim7.holds Tryd.pinned (.plain (OpenSpec.ofChange lineShowsSpec)) lineShowsCard

/-- THE TIED CARD OF 'caulkerlaw02.LineOrder'. -/
def lineOrderCard : Claim7 := { stood := { row := lineOrderRow, standIns := [], harness := (true, "df035afa00309ea41fd295f0686b3f926a41232cf88eeda2bbadf21d116ea869"), looks := false }, kinds := [], alts := [], laidByText := true, laidKinds := [.data, .data, .data], laidTests := true, laidLooks := .later }
def LineOrderCardSaid : Prop := Claim7.holds Tryd.pinned (.plain (OpenSpec.ofChange lineOrderSpec)) lineOrderCard

/-- THE SECOND FORM's CARD OF 'caulkertop.WholePlaces'. -/
def wholePlacesUptoCard : Claim7 := { stood := { row := wholePlacesUptoRow, standIns := [], harness := (true, "df035afa00309ea41fd295f0686b3f926a41232cf88eeda2bbadf21d116ea869"), looks := false }, kinds := [], alts := [], laidByText := true, laidKinds := [.data, .data, .data], laidTests := true, laidLooks := .later }
def WholePlacesUptoCardSaid : Prop := Claim7.holds Tryd.pinned (.plain (OpenSpec.upto wholePlacesSpec)) wholePlacesUptoCard

/-- THE SECOND FORM's CARD OF 'caulkerlaw02.LinePlaces'. -/
def linePlacesUptoCard : Claim7 := { stood := { row := linePlacesUptoRow, standIns := [], harness := (true, "df035afa00309ea41fd295f0686b3f926a41232cf88eeda2bbadf21d116ea869"), looks := false }, kinds := [], alts := [], laidByText := true, laidKinds := [.data, .data, .data], laidTests := true, laidLooks := .later }
def LinePlacesUptoCardSaid : Prop := Claim7.holds Tryd.pinned (.plain (OpenSpec.upto linePlacesSpec)) linePlacesUptoCard

/-- THE SECOND FORM's CARD OF 'caulkerlaw02.LineBytes'. -/
def lineBytesUptoCard : Claim7 := { stood := { row := lineBytesUptoRow, standIns := [], harness := (true, "df035afa00309ea41fd295f0686b3f926a41232cf88eeda2bbadf21d116ea869"), looks := false }, kinds := [], alts := [], laidByText := true, laidKinds := [.data, .data, .data], laidTests := true, laidLooks := .later }
def LineBytesUptoCardSaid : Prop := Claim7.holds Tryd.pinned (.plain (OpenSpec.upto lineBytesSpec)) lineBytesUptoCard

/-- THE SECOND FORM's CARD OF 'caulkerlaw02.LineTexts'. -/
def lineTextsUptoCard : Claim7 := { stood := { row := lineTextsUptoRow, standIns := [], harness := (true, "df035afa00309ea41fd295f0686b3f926a41232cf88eeda2bbadf21d116ea869"), looks := false }, kinds := [], alts := [], laidByText := true, laidKinds := [.data, .data, .data], laidTests := true, laidLooks := .later }
def LineTextsUptoCardSaid : Prop := Claim7.holds Tryd.pinned (.plain (OpenSpec.upto lineTextsSpec)) lineTextsUptoCard

/-- THE SECOND FORM's CARD OF 'caulkerlaw02.LineShows'. -/
def lineShowsUptoCard : Claim7 := { stood := { row := lineShowsUptoRow, standIns := [], harness := (true, "df035afa00309ea41fd295f0686b3f926a41232cf88eeda2bbadf21d116ea869"), looks := false }, kinds := [], alts := [], laidByText := true, laidKinds := [.data, .data, .data], laidTests := true, laidLooks := .later }
def LineShowsUptoCardSaid : Prop := Claim7.holds Tryd.pinned (.plain (OpenSpec.upto lineShowsSpec)) lineShowsUptoCard

/-- THE SECOND FORM's CARD OF 'caulkerlaw02.LineOrder'. -/
def lineOrderUptoCard : Claim7 := { stood := { row := lineOrderUptoRow, standIns := [], harness := (true, "df035afa00309ea41fd295f0686b3f926a41232cf88eeda2bbadf21d116ea869"), looks := false }, kinds := [], alts := [], laidByText := true, laidKinds := [.data, .data, .data], laidTests := true, laidLooks := .later }
def LineOrderUptoCardSaid : Prop := Claim7.holds Tryd.pinned (.plain (OpenSpec.upto lineOrderSpec)) lineOrderUptoCard
end Rows
end Go.Proofs.YtimhbepecnmjeaaDoor
