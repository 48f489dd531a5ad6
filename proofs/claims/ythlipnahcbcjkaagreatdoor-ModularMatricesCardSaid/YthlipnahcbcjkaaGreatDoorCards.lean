/-
  DERIVED. GIVEN WITH THE SEED: THE CARDS: each row of YthlipnahcbcjkaaGreatDoorRows.lean that lists a variable, with what it lists TIED to the program's text (the seventh form; the later family's looks); each row that meets fmt, with fmt's text TOLD by the authors' own Lean function (tested against real Go, not proved from fmt's source: count such statements apart). THE CARD IS WHAT COUNTS. Prove the row's statement (the work); the ties are given (YthlipnahcbcjkaaGreatDoorTie.lean); close each card by the builder's one call (the guide's Derived/Test/ToyasCard.lean, 'card_holds'). Laid BY PROGRAM, IN A SANDBOX (cutbox-door.mjs). By AI agents, Wed Nov 11 2026. No macro, syntax, notation, axiom, sorry.
-/
import Derived.Test.YthlipnahcbcjkaaGreatDoorRows
import GoSem.ClaimSeven
namespace Go.Proofs.YthlipnahcbcjkaaGreatDoor
namespace Rows

/-- THE TIED CARD OF 'sosoptlaw02.ModularSolution'. -/
def modularSolutionCard : Claim7 := { stood := { row := modularSolutionRow, standIns := [], harness := (true, "0142e5c2836959479d4fa5381e489b8d892a88f69f3f21d3bb4e345b42076ac7"), looks := true }, kinds := [], alts := [], laidByText := true, laidKinds := [.data, .data, .data], laidTests := true, laidLooks := .later }
def ModularSolutionCardSaid : Prop := Claim7.holds Tryz.pinned (.plain (OpenSpec.ofChange modularSolutionSpec)) modularSolutionCard

/-- THE TIED CARD OF 'sosoptlaw02.ModularMatrices'. -/
def modularMatricesCard : Claim7 := { stood := { row := modularMatricesRow, standIns := [], harness := (true, "0142e5c2836959479d4fa5381e489b8d892a88f69f3f21d3bb4e345b42076ac7"), looks := true }, kinds := [], alts := [], laidByText := true, laidKinds := [.data, .data, .data], laidTests := true, laidLooks := .later }
def ModularMatricesCardSaid : Prop := Claim7.holds Tryz.pinned (.plain (OpenSpec.ofChange modularMatricesSpec)) modularMatricesCard

/-- THE TIED CARD OF 'sosoptlaw01.RationalRounding'. -/
def rationalRoundingCard : Claim7 := { stood := { row := rationalRoundingRow, standIns := [], harness := (true, "0142e5c2836959479d4fa5381e489b8d892a88f69f3f21d3bb4e345b42076ac7"), looks := true }, kinds := [], alts := [], laidByText := true, laidKinds := [.data, .data, .data], laidTests := true, laidLooks := .later }
def RationalRoundingCardSaid : Prop := Claim7.holds Tryz.pinned (.plain (OpenSpec.ofChange rationalRoundingSpec)) rationalRoundingCard

/-- THE TIED CARD OF 'sosoptlaw11.SurdFactor'. -/
def surdFactorCard : Claim7 := { stood := { row := surdFactorRow, standIns := [], harness := (true, "0142e5c2836959479d4fa5381e489b8d892a88f69f3f21d3bb4e345b42076ac7"), looks := true }, kinds := [], alts := [], laidByText := true, laidKinds := [.data, .data, .data], laidTests := true, laidLooks := .later }
def SurdFactorCardSaid : Prop := Claim7.holds Tryz.pinned (.plain (OpenSpec.ofChange surdFactorSpec)) surdFactorCard

/-- THE TIED CARD OF 'sosoptlaw11.SurdFactorRaw'. -/
def surdFactorRawCard : Claim7 := { stood := { row := surdFactorRawRow, standIns := [], harness := (true, "0142e5c2836959479d4fa5381e489b8d892a88f69f3f21d3bb4e345b42076ac7"), looks := true }, kinds := [], alts := [], laidByText := true, laidKinds := [.data, .data, .data], laidTests := true, laidLooks := .later }
def SurdFactorRawCardSaid : Prop := Claim7.holds Tryz.pinned (.plain (OpenSpec.ofChange surdFactorRawSpec)) surdFactorRawCard

/-- THE TIED CARD OF 'sosoptlaw01.RationalValid'. -/
def rationalValidCard : Claim7 := { stood := { row := rationalValidRow, standIns := [], harness := (true, "0142e5c2836959479d4fa5381e489b8d892a88f69f3f21d3bb4e345b42076ac7"), looks := true }, kinds := [], alts := [], laidByText := true, laidKinds := [.data, .data, .data, .sentinel, .sentinel], laidTests := true, laidLooks := .later }
def RationalValidCardSaid : Prop := Claim7.holds Tryz.pinned (.plain (OpenSpec.ofChange rationalValidSpec)) rationalValidCard

/-- THE SECOND FORM's CARD OF 'sosoptlaw02.ModularSolution'. -/
def modularSolutionUptoCard : Claim7 := { stood := { row := modularSolutionUptoRow, standIns := [], harness := (true, "0142e5c2836959479d4fa5381e489b8d892a88f69f3f21d3bb4e345b42076ac7"), looks := true }, kinds := [], alts := [], laidByText := true, laidKinds := [.data, .data, .data], laidTests := true, laidLooks := .later }
def ModularSolutionUptoCardSaid : Prop := Claim7.holds Tryz.pinned (.plain (OpenSpec.upto modularSolutionSpec)) modularSolutionUptoCard

/-- THE SECOND FORM's CARD OF 'sosoptlaw02.ModularMatrices'. -/
def modularMatricesUptoCard : Claim7 := { stood := { row := modularMatricesUptoRow, standIns := [], harness := (true, "0142e5c2836959479d4fa5381e489b8d892a88f69f3f21d3bb4e345b42076ac7"), looks := true }, kinds := [], alts := [], laidByText := true, laidKinds := [.data, .data, .data], laidTests := true, laidLooks := .later }
def ModularMatricesUptoCardSaid : Prop := Claim7.holds Tryz.pinned (.plain (OpenSpec.upto modularMatricesSpec)) modularMatricesUptoCard

/-- THE SECOND FORM's CARD OF 'sosoptlaw01.RationalRounding'. -/
def rationalRoundingUptoCard : Claim7 := { stood := { row := rationalRoundingUptoRow, standIns := [], harness := (true, "0142e5c2836959479d4fa5381e489b8d892a88f69f3f21d3bb4e345b42076ac7"), looks := true }, kinds := [], alts := [], laidByText := true, laidKinds := [.data, .data, .data], laidTests := true, laidLooks := .later }
def RationalRoundingUptoCardSaid : Prop := Claim7.holds Tryz.pinned (.plain (OpenSpec.upto rationalRoundingSpec)) rationalRoundingUptoCard

/-- THE SECOND FORM's CARD OF 'sosoptlaw11.SurdFactor'. -/
def surdFactorUptoCard : Claim7 := { stood := { row := surdFactorUptoRow, standIns := [], harness := (true, "0142e5c2836959479d4fa5381e489b8d892a88f69f3f21d3bb4e345b42076ac7"), looks := true }, kinds := [], alts := [], laidByText := true, laidKinds := [.data, .data, .data], laidTests := true, laidLooks := .later }
def SurdFactorUptoCardSaid : Prop := Claim7.holds Tryz.pinned (.plain (OpenSpec.upto surdFactorSpec)) surdFactorUptoCard

/-- THE SECOND FORM's CARD OF 'sosoptlaw11.SurdFactorRaw'. -/
def surdFactorRawUptoCard : Claim7 := { stood := { row := surdFactorRawUptoRow, standIns := [], harness := (true, "0142e5c2836959479d4fa5381e489b8d892a88f69f3f21d3bb4e345b42076ac7"), looks := true }, kinds := [], alts := [], laidByText := true, laidKinds := [.data, .data, .data], laidTests := true, laidLooks := .later }
def SurdFactorRawUptoCardSaid : Prop := Claim7.holds Tryz.pinned (.plain (OpenSpec.upto surdFactorRawSpec)) surdFactorRawUptoCard

/-- THE SECOND FORM's CARD OF 'sosoptlaw01.RationalValid'. -/
def rationalValidUptoCard : Claim7 := { stood := { row := rationalValidUptoRow, standIns := [], harness := (true, "0142e5c2836959479d4fa5381e489b8d892a88f69f3f21d3bb4e345b42076ac7"), looks := true }, kinds := [], alts := [], laidByText := true, laidKinds := [.data, .data, .data, .sentinel, .sentinel], laidTests := true, laidLooks := .later }
def RationalValidUptoCardSaid : Prop := Claim7.holds Tryz.pinned (.plain (OpenSpec.upto rationalValidSpec)) rationalValidUptoCard
end Rows
end Go.Proofs.YthlipnahcbcjkaaGreatDoor
