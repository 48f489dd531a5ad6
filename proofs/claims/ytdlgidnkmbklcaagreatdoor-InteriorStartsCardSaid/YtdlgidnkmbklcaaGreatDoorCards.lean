/-
  DERIVED. GIVEN WITH THE SEED: THE CARDS: each row of YtdlgidnkmbklcaaGreatDoorRows.lean that lists a variable, with what it lists TIED to the program's text (the seventh form; the later family's looks); each row that meets fmt, with fmt's text TOLD by the authors' own Lean function (tested against real Go, not proved from fmt's source: count such statements apart). THE CARD IS WHAT COUNTS. Prove the row's statement (the work); the ties are given (YtdlgidnkmbklcaaGreatDoorTie.lean); close each card by the builder's one call (the guide's Derived/Test/ToyasCard.lean, 'card_holds'). Laid BY PROGRAM, IN A SANDBOX (cutbox-door.mjs). By AI agents, Wed Nov 11 2026. No macro, syntax, notation, axiom, sorry.
-/
import Derived.Test.YtdlgidnkmbklcaaGreatDoorRows
import GoSem.ClaimSeven
namespace Go.Proofs.YtdlgidnkmbklcaaGreatDoor
namespace Rows

/-- THE TIED CARD OF 'sosoptlaw26.InteriorStarts'. -/
def interiorStartsCard : Claim7 := { stood := { row := interiorStartsRow, standIns := [], harness := (true, "2a3ba5ddbd5deeb75d3711abd47a17deb1f542b3c98d159c9b48aab05877a461"), looks := true }, kinds := [], alts := [], laidByText := true, laidKinds := [.data, .data, .data, .sentinel, .sentinel], laidTests := true, laidLooks := .later }
def InteriorStartsCardSaid : Prop := Claim7.holds Tryz.pinned (.plain (OpenSpec.ofChange interiorStartsSpec)) interiorStartsCard

/-- THE TIED CARD OF 'sosoptlaw26.InteriorValid'. -/
def interiorValidCard : Claim7 := { stood := { row := interiorValidRow, standIns := [], harness := (true, "2a3ba5ddbd5deeb75d3711abd47a17deb1f542b3c98d159c9b48aab05877a461"), looks := true }, kinds := [], alts := [], laidByText := true, laidKinds := [.data, .data, .data, .sentinel, .sentinel], laidTests := true, laidLooks := .later }
def InteriorValidCardSaid : Prop := Claim7.holds Tryz.pinned (.plain (OpenSpec.ofChange interiorValidSpec)) interiorValidCard

/-- THE SECOND FORM's CARD OF 'sosoptlaw26.InteriorStarts'. -/
def interiorStartsUptoCard : Claim7 := { stood := { row := interiorStartsUptoRow, standIns := [], harness := (true, "2a3ba5ddbd5deeb75d3711abd47a17deb1f542b3c98d159c9b48aab05877a461"), looks := true }, kinds := [], alts := [], laidByText := true, laidKinds := [.data, .data, .data, .sentinel, .sentinel], laidTests := true, laidLooks := .later }
def InteriorStartsUptoCardSaid : Prop := Claim7.holds Tryz.pinned (.plain (OpenSpec.upto interiorStartsSpec)) interiorStartsUptoCard

/-- THE SECOND FORM's CARD OF 'sosoptlaw26.InteriorValid'. -/
def interiorValidUptoCard : Claim7 := { stood := { row := interiorValidUptoRow, standIns := [], harness := (true, "2a3ba5ddbd5deeb75d3711abd47a17deb1f542b3c98d159c9b48aab05877a461"), looks := true }, kinds := [], alts := [], laidByText := true, laidKinds := [.data, .data, .data, .sentinel, .sentinel], laidTests := true, laidLooks := .later }
def InteriorValidUptoCardSaid : Prop := Claim7.holds Tryz.pinned (.plain (OpenSpec.upto interiorValidSpec)) interiorValidUptoCard
end Rows
end Go.Proofs.YtdlgidnkmbklcaaGreatDoor
