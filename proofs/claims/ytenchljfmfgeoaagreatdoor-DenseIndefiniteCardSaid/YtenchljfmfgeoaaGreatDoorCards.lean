/-
  DERIVED. GIVEN WITH THE SEED: THE CARDS: each row of YtenchljfmfgeoaaGreatDoorRows.lean that lists a variable, with what it lists TIED to the program's text (the seventh form; the later family's looks); each row that meets fmt, with fmt's text TOLD by the authors' own Lean function (tested against real Go, not proved from fmt's source: count such statements apart). THE CARD IS WHAT COUNTS. Prove the row's statement (the work); the ties are given (YtenchljfmfgeoaaGreatDoorTie.lean); close each card by the builder's one call (the guide's Derived/Test/ToyasCard.lean, 'card_holds'). Laid BY PROGRAM, IN A SANDBOX (cutbox-door.mjs). By AI agents, Wed Nov 11 2026. No macro, syntax, notation, axiom, sorry.
-/
import Derived.Test.YtenchljfmfgeoaaGreatDoorRows
import GoSem.ClaimSeven
namespace Go.Proofs.YtenchljfmfgeoaaGreatDoor
namespace Rows

/-- THE TIED CARD OF 'sosoptlaw24.DenseRounds'. -/
def denseRoundsCard : Claim7 := { stood := { row := denseRoundsRow, standIns := [], harness := (true, "2709157ccca6e481936fc7f979b0edd368439e5c2ceb0561041e6f86dc84c68f"), looks := true }, kinds := [], alts := [], laidByText := true, laidKinds := [.data, .data, .data, .sentinel, .sentinel], laidTests := true, laidLooks := .later }
def DenseRoundsCardSaid : Prop := Claim7.holds Tryz.pinned (.plain (OpenSpec.ofChange denseRoundsSpec)) denseRoundsCard

/-- THE TIED CARD OF 'sosoptlaw24.DenseLimits'. -/
def denseLimitsCard : Claim7 := { stood := { row := denseLimitsRow, standIns := [], harness := (true, "2709157ccca6e481936fc7f979b0edd368439e5c2ceb0561041e6f86dc84c68f"), looks := true }, kinds := [], alts := [], laidByText := true, laidKinds := [.data, .data, .data, .sentinel, .sentinel], laidTests := true, laidLooks := .later }
def DenseLimitsCardSaid : Prop := Claim7.holds Tryz.pinned (.plain (OpenSpec.ofChange denseLimitsSpec)) denseLimitsCard

/-- THE TIED CARD OF 'sosoptlaw24.DenseSolves'. -/
def denseSolvesCard : Claim7 := { stood := { row := denseSolvesRow, standIns := [], harness := (true, "2709157ccca6e481936fc7f979b0edd368439e5c2ceb0561041e6f86dc84c68f"), looks := true }, kinds := [], alts := [], laidByText := true, laidKinds := [.data, .data, .data, .sentinel, .sentinel], laidTests := true, laidLooks := .later }
def DenseSolvesCardSaid : Prop := Claim7.holds Tryz.pinned (.plain (OpenSpec.ofChange denseSolvesSpec)) denseSolvesCard

/-- THE TIED CARD OF 'sosoptlaw24.DenseTurns'. -/
def denseTurnsCard : Claim7 := { stood := { row := denseTurnsRow, standIns := [], harness := (true, "2709157ccca6e481936fc7f979b0edd368439e5c2ceb0561041e6f86dc84c68f"), looks := true }, kinds := [], alts := [], laidByText := true, laidKinds := [.data, .data, .data, .sentinel, .sentinel], laidTests := true, laidLooks := .later }
def DenseTurnsCardSaid : Prop := Claim7.holds Tryz.pinned (.plain (OpenSpec.ofChange denseTurnsSpec)) denseTurnsCard

/-- THE TIED CARD OF 'sosoptlaw24.DenseIndefinite'. -/
def denseIndefiniteCard : Claim7 := { stood := { row := denseIndefiniteRow, standIns := [], harness := (true, "2709157ccca6e481936fc7f979b0edd368439e5c2ceb0561041e6f86dc84c68f"), looks := true }, kinds := [], alts := [], laidByText := true, laidKinds := [.data, .data, .data, .sentinel, .sentinel], laidTests := true, laidLooks := .later }
def DenseIndefiniteCardSaid : Prop := Claim7.holds Tryz.pinned (.plain (OpenSpec.ofChange denseIndefiniteSpec)) denseIndefiniteCard

/-- THE SECOND FORM's CARD OF 'sosoptlaw24.DenseRounds'. -/
def denseRoundsUptoCard : Claim7 := { stood := { row := denseRoundsUptoRow, standIns := [], harness := (true, "2709157ccca6e481936fc7f979b0edd368439e5c2ceb0561041e6f86dc84c68f"), looks := true }, kinds := [], alts := [], laidByText := true, laidKinds := [.data, .data, .data, .sentinel, .sentinel], laidTests := true, laidLooks := .later }
def DenseRoundsUptoCardSaid : Prop := Claim7.holds Tryz.pinned (.plain (OpenSpec.upto denseRoundsSpec)) denseRoundsUptoCard

/-- THE SECOND FORM's CARD OF 'sosoptlaw24.DenseLimits'. -/
def denseLimitsUptoCard : Claim7 := { stood := { row := denseLimitsUptoRow, standIns := [], harness := (true, "2709157ccca6e481936fc7f979b0edd368439e5c2ceb0561041e6f86dc84c68f"), looks := true }, kinds := [], alts := [], laidByText := true, laidKinds := [.data, .data, .data, .sentinel, .sentinel], laidTests := true, laidLooks := .later }
def DenseLimitsUptoCardSaid : Prop := Claim7.holds Tryz.pinned (.plain (OpenSpec.upto denseLimitsSpec)) denseLimitsUptoCard

/-- THE SECOND FORM's CARD OF 'sosoptlaw24.DenseSolves'. -/
def denseSolvesUptoCard : Claim7 := { stood := { row := denseSolvesUptoRow, standIns := [], harness := (true, "2709157ccca6e481936fc7f979b0edd368439e5c2ceb0561041e6f86dc84c68f"), looks := true }, kinds := [], alts := [], laidByText := true, laidKinds := [.data, .data, .data, .sentinel, .sentinel], laidTests := true, laidLooks := .later }
def DenseSolvesUptoCardSaid : Prop := Claim7.holds Tryz.pinned (.plain (OpenSpec.upto denseSolvesSpec)) denseSolvesUptoCard

/-- THE SECOND FORM's CARD OF 'sosoptlaw24.DenseTurns'. -/
def denseTurnsUptoCard : Claim7 := { stood := { row := denseTurnsUptoRow, standIns := [], harness := (true, "2709157ccca6e481936fc7f979b0edd368439e5c2ceb0561041e6f86dc84c68f"), looks := true }, kinds := [], alts := [], laidByText := true, laidKinds := [.data, .data, .data, .sentinel, .sentinel], laidTests := true, laidLooks := .later }
def DenseTurnsUptoCardSaid : Prop := Claim7.holds Tryz.pinned (.plain (OpenSpec.upto denseTurnsSpec)) denseTurnsUptoCard

/-- THE SECOND FORM's CARD OF 'sosoptlaw24.DenseIndefinite'. -/
def denseIndefiniteUptoCard : Claim7 := { stood := { row := denseIndefiniteUptoRow, standIns := [], harness := (true, "2709157ccca6e481936fc7f979b0edd368439e5c2ceb0561041e6f86dc84c68f"), looks := true }, kinds := [], alts := [], laidByText := true, laidKinds := [.data, .data, .data, .sentinel, .sentinel], laidTests := true, laidLooks := .later }
def DenseIndefiniteUptoCardSaid : Prop := Claim7.holds Tryz.pinned (.plain (OpenSpec.upto denseIndefiniteSpec)) denseIndefiniteUptoCard
end Rows
end Go.Proofs.YtenchljfmfgeoaaGreatDoor
