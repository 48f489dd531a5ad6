/-
  DERIVED. GIVEN WITH THE SEED: THE CARDS: each row of YtmpffakfhcpjoaaGreatDoorRows.lean that lists a variable, with what it lists TIED to the program's text (the seventh form; the later family's looks); each row that meets fmt, with fmt's text TOLD by the authors' own Lean function (tested against real Go, not proved from fmt's source: count such statements apart). THE CARD IS WHAT COUNTS. Prove the row's statement (the work); the ties are given (YtmpffakfhcpjoaaGreatDoorTie.lean); close each card by the builder's one call (the guide's Derived/Test/ToyasCard.lean, 'card_holds'). Laid BY PROGRAM, IN A SANDBOX (cutbox-door.mjs). By AI agents, Wed Nov 11 2026. No macro, syntax, notation, axiom, sorry.
-/
import Derived.Test.YtmpffakfhcpjoaaGreatDoorRows
import GoSem.ClaimSeven
namespace Go.Proofs.YtmpffakfhcpjoaaGreatDoor
namespace Rows

/-- THE TIED CARD OF 'sosoptlaw24.DenseFactors'. -/
def denseFactorsCard : Claim7 := { stood := { row := denseFactorsRow, standIns := [], harness := (true, "bf85b40946c0747d0207a0c10f328c53230db68598566d33bdabdd3fd422d923"), looks := true }, kinds := [], alts := [], laidByText := true, laidKinds := [.data, .data, .data, .sentinel, .sentinel], laidTests := true, laidLooks := .later }
def DenseFactorsCardSaid : Prop := Claim7.holds Tryz.pinned (.plain (OpenSpec.ofChange denseFactorsSpec)) denseFactorsCard

/-- THE SECOND FORM's CARD OF 'sosoptlaw24.DenseFactors'. -/
def denseFactorsUptoCard : Claim7 := { stood := { row := denseFactorsUptoRow, standIns := [], harness := (true, "bf85b40946c0747d0207a0c10f328c53230db68598566d33bdabdd3fd422d923"), looks := true }, kinds := [], alts := [], laidByText := true, laidKinds := [.data, .data, .data, .sentinel, .sentinel], laidTests := true, laidLooks := .later }
def DenseFactorsUptoCardSaid : Prop := Claim7.holds Tryz.pinned (.plain (OpenSpec.upto denseFactorsSpec)) denseFactorsUptoCard
end Rows
end Go.Proofs.YtmpffakfhcpjoaaGreatDoor
