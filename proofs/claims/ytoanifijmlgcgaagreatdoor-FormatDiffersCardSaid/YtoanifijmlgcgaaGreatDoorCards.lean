/-
  DERIVED. GIVEN WITH THE SEED: THE CARDS: each row of YtoanifijmlgcgaaGreatDoorRows.lean that lists a variable, with what it lists TIED to the program's text (the seventh form; the later family's looks); each row that meets fmt, with fmt's text TOLD by the authors' own Lean function (tested against real Go, not proved from fmt's source: count such statements apart). THE CARD IS WHAT COUNTS. Prove the row's statement (the work); the ties are given (YtoanifijmlgcgaaGreatDoorTie.lean); close each card by the builder's one call (the guide's Derived/Test/ToyasCard.lean, 'card_holds'). Laid BY PROGRAM, IN A SANDBOX (cutbox-door.mjs). By AI agents, Wed Nov 11 2026. No macro, syntax, notation, axiom, sorry.
-/
import Derived.Test.YtoanifijmlgcgaaGreatDoorRows
import GoSem.ClaimSeven
namespace Go.Proofs.YtoanifijmlgcgaaGreatDoor
namespace Rows

/-- THE TIED CARD OF 'sosoptlaw42.FormatDiffers'. -/
def formatDiffersCard : Claim7 := { stood := { row := formatDiffersRow, standIns := [], harness := (true, "92474b3090e05ec10cf0e0040183e4830c1e4a4ca3a8aa79add3858f37cb4462"), looks := true }, kinds := [], alts := [], laidByText := true, laidKinds := [.data, .data, .data], laidTests := true, laidLooks := .later }
def FormatDiffersCardSaid : Prop := Claim7.holds Tryz.pinned (.plain (OpenSpec.ofChange formatDiffersSpec)) formatDiffersCard

/-- THE TIED CARD OF 'sosoptlaw42.FormatReads'. -/
def formatReadsCard : Claim7 := { stood := { row := formatReadsRow, standIns := [], harness := (true, "92474b3090e05ec10cf0e0040183e4830c1e4a4ca3a8aa79add3858f37cb4462"), looks := true }, kinds := [], alts := [], laidByText := true, laidKinds := [.data, .data, .data, .data, .sentinel, .sentinel, .pinned], laidTests := true, laidLooks := .later }
def FormatReadsCardSaid : Prop := Claim7.holds Tryz.pinned (.plain (OpenSpec.ofChange formatReadsSpec)) formatReadsCard

/-- THE TIED CARD OF 'sosoptlaw42.FormatTexts'. -/
def formatTextsCard : Claim7 := { stood := { row := formatTextsRow, standIns := [], harness := (true, "92474b3090e05ec10cf0e0040183e4830c1e4a4ca3a8aa79add3858f37cb4462"), looks := true }, kinds := [], alts := [], laidByText := true, laidKinds := [.data, .data, .data, .data, .sentinel, .sentinel, .pinned], laidTests := true, laidLooks := .later }
def FormatTextsCardSaid : Prop := Claim7.holds Tryz.pinned (.plain (OpenSpec.ofChange formatTextsSpec)) formatTextsCard

/-- THE TIED CARD OF 'sosoptlaw42.FormatIdentities'. -/
def formatIdentitiesCard : Claim7 := { stood := { row := formatIdentitiesRow, standIns := [], harness := (true, "92474b3090e05ec10cf0e0040183e4830c1e4a4ca3a8aa79add3858f37cb4462"), looks := true }, kinds := [], alts := [], laidByText := true, laidKinds := [.data, .data, .data, .data, .sentinel, .sentinel, .pinned], laidTests := true, laidLooks := .later }
def FormatIdentitiesCardSaid : Prop := Claim7.holds Tryz.pinned (.plain (OpenSpec.ofChange formatIdentitiesSpec)) formatIdentitiesCard

/-- THE TIED CARD OF 'sosoptlaw42.FormatClaims'. -/
def formatClaimsCard : Claim7 := { stood := { row := formatClaimsRow, standIns := [], harness := (true, "92474b3090e05ec10cf0e0040183e4830c1e4a4ca3a8aa79add3858f37cb4462"), looks := true }, kinds := [], alts := [], laidByText := true, laidKinds := [.data, .data, .data, .data, .sentinel, .sentinel, .pinned], laidTests := true, laidLooks := .later }
def FormatClaimsCardSaid : Prop := Claim7.holds Tryz.pinned (.plain (OpenSpec.ofChange formatClaimsSpec)) formatClaimsCard

/-- THE SECOND FORM's CARD OF 'sosoptlaw42.FormatDiffers'. -/
def formatDiffersUptoCard : Claim7 := { stood := { row := formatDiffersUptoRow, standIns := [], harness := (true, "92474b3090e05ec10cf0e0040183e4830c1e4a4ca3a8aa79add3858f37cb4462"), looks := true }, kinds := [], alts := [], laidByText := true, laidKinds := [.data, .data, .data], laidTests := true, laidLooks := .later }
def FormatDiffersUptoCardSaid : Prop := Claim7.holds Tryz.pinned (.plain (OpenSpec.upto formatDiffersSpec)) formatDiffersUptoCard

/-- THE SECOND FORM's CARD OF 'sosoptlaw42.FormatReads'. -/
def formatReadsUptoCard : Claim7 := { stood := { row := formatReadsUptoRow, standIns := [], harness := (true, "92474b3090e05ec10cf0e0040183e4830c1e4a4ca3a8aa79add3858f37cb4462"), looks := true }, kinds := [], alts := [], laidByText := true, laidKinds := [.data, .data, .data, .data, .sentinel, .sentinel, .pinned], laidTests := true, laidLooks := .later }
def FormatReadsUptoCardSaid : Prop := Claim7.holds Tryz.pinned (.plain (OpenSpec.upto formatReadsSpec)) formatReadsUptoCard

/-- THE SECOND FORM's CARD OF 'sosoptlaw42.FormatTexts'. -/
def formatTextsUptoCard : Claim7 := { stood := { row := formatTextsUptoRow, standIns := [], harness := (true, "92474b3090e05ec10cf0e0040183e4830c1e4a4ca3a8aa79add3858f37cb4462"), looks := true }, kinds := [], alts := [], laidByText := true, laidKinds := [.data, .data, .data, .data, .sentinel, .sentinel, .pinned], laidTests := true, laidLooks := .later }
def FormatTextsUptoCardSaid : Prop := Claim7.holds Tryz.pinned (.plain (OpenSpec.upto formatTextsSpec)) formatTextsUptoCard

/-- THE SECOND FORM's CARD OF 'sosoptlaw42.FormatIdentities'. -/
def formatIdentitiesUptoCard : Claim7 := { stood := { row := formatIdentitiesUptoRow, standIns := [], harness := (true, "92474b3090e05ec10cf0e0040183e4830c1e4a4ca3a8aa79add3858f37cb4462"), looks := true }, kinds := [], alts := [], laidByText := true, laidKinds := [.data, .data, .data, .data, .sentinel, .sentinel, .pinned], laidTests := true, laidLooks := .later }
def FormatIdentitiesUptoCardSaid : Prop := Claim7.holds Tryz.pinned (.plain (OpenSpec.upto formatIdentitiesSpec)) formatIdentitiesUptoCard

/-- THE SECOND FORM's CARD OF 'sosoptlaw42.FormatClaims'. -/
def formatClaimsUptoCard : Claim7 := { stood := { row := formatClaimsUptoRow, standIns := [], harness := (true, "92474b3090e05ec10cf0e0040183e4830c1e4a4ca3a8aa79add3858f37cb4462"), looks := true }, kinds := [], alts := [], laidByText := true, laidKinds := [.data, .data, .data, .data, .sentinel, .sentinel, .pinned], laidTests := true, laidLooks := .later }
def FormatClaimsUptoCardSaid : Prop := Claim7.holds Tryz.pinned (.plain (OpenSpec.upto formatClaimsSpec)) formatClaimsUptoCard
end Rows
end Go.Proofs.YtoanifijmlgcgaaGreatDoor
