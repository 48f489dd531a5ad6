/-
  DERIVED. GIVEN WITH THE SEED: THE CARDS: each row of YtcpjeaaapocoeaaGreatDoorRows.lean that lists a variable, with what it lists TIED to the program's text (the seventh form; the later family's looks); each row that meets fmt, with fmt's text TOLD by the authors' own Lean function (tested against real Go, not proved from fmt's source: count such statements apart). THE CARD IS WHAT COUNTS. Prove the row's statement (the work); the ties are given (YtcpjeaaapocoeaaGreatDoorTie.lean); close each card by the builder's one call (the guide's Derived/Test/ToyasCard.lean, 'card_holds'). Laid BY PROGRAM, IN A SANDBOX (cutbox-door.mjs). By AI agents, Wed Nov 11 2026. No macro, syntax, notation, axiom, sorry.
-/
import Derived.Test.YtcpjeaaapocoeaaGreatDoorRows
import GoSem.ClaimSeven
namespace Go.Proofs.YtcpjeaaapocoeaaGreatDoor
namespace Rows

/-- THE TIED CARD OF 'sosoptlaw42.FormatDiffers'. -/
def formatDiffersCard : Claim7 := { stood := { row := formatDiffersRow, standIns := [], harness := (true, "7b048545e559e89ebe068cbb71d799e8f85bf4b180636aa58f589d27d4fe0d87"), looks := true }, kinds := [], alts := [], laidByText := true, laidKinds := [.data, .data, .data], laidTests := true, laidLooks := .later }
def FormatDiffersCardSaid : Prop := Claim7.holds Tryz.pinned (.plain (OpenSpec.ofChange formatDiffersSpec)) formatDiffersCard

/-- THE TIED CARD OF 'sosoptlaw01.RationalLong'. -/
def rationalLongCard : Claim7 := { stood := { row := rationalLongRow, standIns := [], harness := (true, "7b048545e559e89ebe068cbb71d799e8f85bf4b180636aa58f589d27d4fe0d87"), looks := true }, kinds := [], alts := [], laidByText := true, laidKinds := [.data, .data, .data], laidTests := true, laidLooks := .later }
def RationalLongCardSaid : Prop := Claim7.holds Tryz.pinned (.plain (OpenSpec.ofChange rationalLongSpec)) rationalLongCard

/-- THE TIED CARD OF 'sosoptlaw42.FormatZero'. -/
def formatZeroCard : Claim7 := { stood := { row := formatZeroRow, standIns := [], harness := (true, "7b048545e559e89ebe068cbb71d799e8f85bf4b180636aa58f589d27d4fe0d87"), looks := true }, kinds := [], alts := [], laidByText := true, laidKinds := [.data, .data, .data, .data, .sentinel, .sentinel, .pinned], laidTests := true, laidLooks := .later }
def FormatZeroCardSaid : Prop := Claim7.holds Tryz.pinned (.plain (OpenSpec.ofChange formatZeroSpec)) formatZeroCard

/-- THE TIED CARD OF 'sosoptlaw42.FormatPolys'. -/
def formatPolysCard : Claim7 := { stood := { row := formatPolysRow, standIns := [], harness := (true, "7b048545e559e89ebe068cbb71d799e8f85bf4b180636aa58f589d27d4fe0d87"), looks := true }, kinds := [], alts := [], laidByText := true, laidKinds := [.data, .data, .data, .data, .sentinel, .sentinel, .pinned], laidTests := true, laidLooks := .later }
def FormatPolysCardSaid : Prop := Claim7.holds Tryz.pinned (.plain (OpenSpec.ofChange formatPolysSpec)) formatPolysCard

/-- THE TIED CARD OF 'sosoptlaw42.FormatLong'. -/
def formatLongCard : Claim7 := { stood := { row := formatLongRow, standIns := [], harness := (true, "7b048545e559e89ebe068cbb71d799e8f85bf4b180636aa58f589d27d4fe0d87"), looks := true }, kinds := [], alts := [], laidByText := true, laidKinds := [.data, .data, .data, .data, .sentinel, .sentinel, .pinned], laidTests := true, laidLooks := .later }
def FormatLongCardSaid : Prop := Claim7.holds Tryz.pinned (.plain (OpenSpec.ofChange formatLongSpec)) formatLongCard

/-- THE TIED CARD OF 'sosoptlaw42.FormatReads'. -/
def formatReadsCard : Claim7 := { stood := { row := formatReadsRow, standIns := [], harness := (true, "7b048545e559e89ebe068cbb71d799e8f85bf4b180636aa58f589d27d4fe0d87"), looks := true }, kinds := [], alts := [], laidByText := true, laidKinds := [.data, .data, .data, .data, .sentinel, .sentinel, .pinned], laidTests := true, laidLooks := .later }
def FormatReadsCardSaid : Prop := Claim7.holds Tryz.pinned (.plain (OpenSpec.ofChange formatReadsSpec)) formatReadsCard

/-- THE TIED CARD OF 'sosoptlaw42.FormatTexts'. -/
def formatTextsCard : Claim7 := { stood := { row := formatTextsRow, standIns := [], harness := (true, "7b048545e559e89ebe068cbb71d799e8f85bf4b180636aa58f589d27d4fe0d87"), looks := true }, kinds := [], alts := [], laidByText := true, laidKinds := [.data, .data, .data, .data, .sentinel, .sentinel, .pinned], laidTests := true, laidLooks := .later }
def FormatTextsCardSaid : Prop := Claim7.holds Tryz.pinned (.plain (OpenSpec.ofChange formatTextsSpec)) formatTextsCard

/-- THE TIED CARD OF 'sosoptlaw42.FormatIdentities'. -/
def formatIdentitiesCard : Claim7 := { stood := { row := formatIdentitiesRow, standIns := [], harness := (true, "7b048545e559e89ebe068cbb71d799e8f85bf4b180636aa58f589d27d4fe0d87"), looks := true }, kinds := [], alts := [], laidByText := true, laidKinds := [.data, .data, .data, .data, .sentinel, .sentinel, .pinned], laidTests := true, laidLooks := .later }
def FormatIdentitiesCardSaid : Prop := Claim7.holds Tryz.pinned (.plain (OpenSpec.ofChange formatIdentitiesSpec)) formatIdentitiesCard

/-- THE TIED CARD OF 'sosoptlaw42.FormatClaims'. -/
def formatClaimsCard : Claim7 := { stood := { row := formatClaimsRow, standIns := [], harness := (true, "7b048545e559e89ebe068cbb71d799e8f85bf4b180636aa58f589d27d4fe0d87"), looks := true }, kinds := [], alts := [], laidByText := true, laidKinds := [.data, .data, .data, .data, .sentinel, .sentinel, .pinned], laidTests := true, laidLooks := .later }
def FormatClaimsCardSaid : Prop := Claim7.holds Tryz.pinned (.plain (OpenSpec.ofChange formatClaimsSpec)) formatClaimsCard

/-- THE SECOND FORM's CARD OF 'sosoptlaw42.FormatDiffers'. -/
def formatDiffersUptoCard : Claim7 := { stood := { row := formatDiffersUptoRow, standIns := [], harness := (true, "7b048545e559e89ebe068cbb71d799e8f85bf4b180636aa58f589d27d4fe0d87"), looks := true }, kinds := [], alts := [], laidByText := true, laidKinds := [.data, .data, .data], laidTests := true, laidLooks := .later }
def FormatDiffersUptoCardSaid : Prop := Claim7.holds Tryz.pinned (.plain (OpenSpec.upto formatDiffersSpec)) formatDiffersUptoCard

/-- THE SECOND FORM's CARD OF 'sosoptlaw01.RationalLong'. -/
def rationalLongUptoCard : Claim7 := { stood := { row := rationalLongUptoRow, standIns := [], harness := (true, "7b048545e559e89ebe068cbb71d799e8f85bf4b180636aa58f589d27d4fe0d87"), looks := true }, kinds := [], alts := [], laidByText := true, laidKinds := [.data, .data, .data], laidTests := true, laidLooks := .later }
def RationalLongUptoCardSaid : Prop := Claim7.holds Tryz.pinned (.plain (OpenSpec.upto rationalLongSpec)) rationalLongUptoCard

/-- THE SECOND FORM's CARD OF 'sosoptlaw42.FormatZero'. -/
def formatZeroUptoCard : Claim7 := { stood := { row := formatZeroUptoRow, standIns := [], harness := (true, "7b048545e559e89ebe068cbb71d799e8f85bf4b180636aa58f589d27d4fe0d87"), looks := true }, kinds := [], alts := [], laidByText := true, laidKinds := [.data, .data, .data, .data, .sentinel, .sentinel, .pinned], laidTests := true, laidLooks := .later }
def FormatZeroUptoCardSaid : Prop := Claim7.holds Tryz.pinned (.plain (OpenSpec.upto formatZeroSpec)) formatZeroUptoCard

/-- THE SECOND FORM's CARD OF 'sosoptlaw42.FormatPolys'. -/
def formatPolysUptoCard : Claim7 := { stood := { row := formatPolysUptoRow, standIns := [], harness := (true, "7b048545e559e89ebe068cbb71d799e8f85bf4b180636aa58f589d27d4fe0d87"), looks := true }, kinds := [], alts := [], laidByText := true, laidKinds := [.data, .data, .data, .data, .sentinel, .sentinel, .pinned], laidTests := true, laidLooks := .later }
def FormatPolysUptoCardSaid : Prop := Claim7.holds Tryz.pinned (.plain (OpenSpec.upto formatPolysSpec)) formatPolysUptoCard

/-- THE SECOND FORM's CARD OF 'sosoptlaw42.FormatLong'. -/
def formatLongUptoCard : Claim7 := { stood := { row := formatLongUptoRow, standIns := [], harness := (true, "7b048545e559e89ebe068cbb71d799e8f85bf4b180636aa58f589d27d4fe0d87"), looks := true }, kinds := [], alts := [], laidByText := true, laidKinds := [.data, .data, .data, .data, .sentinel, .sentinel, .pinned], laidTests := true, laidLooks := .later }
def FormatLongUptoCardSaid : Prop := Claim7.holds Tryz.pinned (.plain (OpenSpec.upto formatLongSpec)) formatLongUptoCard

/-- THE SECOND FORM's CARD OF 'sosoptlaw42.FormatReads'. -/
def formatReadsUptoCard : Claim7 := { stood := { row := formatReadsUptoRow, standIns := [], harness := (true, "7b048545e559e89ebe068cbb71d799e8f85bf4b180636aa58f589d27d4fe0d87"), looks := true }, kinds := [], alts := [], laidByText := true, laidKinds := [.data, .data, .data, .data, .sentinel, .sentinel, .pinned], laidTests := true, laidLooks := .later }
def FormatReadsUptoCardSaid : Prop := Claim7.holds Tryz.pinned (.plain (OpenSpec.upto formatReadsSpec)) formatReadsUptoCard

/-- THE SECOND FORM's CARD OF 'sosoptlaw42.FormatTexts'. -/
def formatTextsUptoCard : Claim7 := { stood := { row := formatTextsUptoRow, standIns := [], harness := (true, "7b048545e559e89ebe068cbb71d799e8f85bf4b180636aa58f589d27d4fe0d87"), looks := true }, kinds := [], alts := [], laidByText := true, laidKinds := [.data, .data, .data, .data, .sentinel, .sentinel, .pinned], laidTests := true, laidLooks := .later }
def FormatTextsUptoCardSaid : Prop := Claim7.holds Tryz.pinned (.plain (OpenSpec.upto formatTextsSpec)) formatTextsUptoCard

/-- THE SECOND FORM's CARD OF 'sosoptlaw42.FormatIdentities'. -/
def formatIdentitiesUptoCard : Claim7 := { stood := { row := formatIdentitiesUptoRow, standIns := [], harness := (true, "7b048545e559e89ebe068cbb71d799e8f85bf4b180636aa58f589d27d4fe0d87"), looks := true }, kinds := [], alts := [], laidByText := true, laidKinds := [.data, .data, .data, .data, .sentinel, .sentinel, .pinned], laidTests := true, laidLooks := .later }
def FormatIdentitiesUptoCardSaid : Prop := Claim7.holds Tryz.pinned (.plain (OpenSpec.upto formatIdentitiesSpec)) formatIdentitiesUptoCard

/-- THE SECOND FORM's CARD OF 'sosoptlaw42.FormatClaims'. -/
def formatClaimsUptoCard : Claim7 := { stood := { row := formatClaimsUptoRow, standIns := [], harness := (true, "7b048545e559e89ebe068cbb71d799e8f85bf4b180636aa58f589d27d4fe0d87"), looks := true }, kinds := [], alts := [], laidByText := true, laidKinds := [.data, .data, .data, .data, .sentinel, .sentinel, .pinned], laidTests := true, laidLooks := .later }
def FormatClaimsUptoCardSaid : Prop := Claim7.holds Tryz.pinned (.plain (OpenSpec.upto formatClaimsSpec)) formatClaimsUptoCard
end Rows
end Go.Proofs.YtcpjeaaapocoeaaGreatDoor
