/-
  DERIVED. GIVEN WITH THE SEED: THE CARDS: each row of YtndafmjcelgnbaaGreatDoorRows.lean that lists a variable, with what it lists TIED to the program's text (the seventh form; the later family's looks); each row that meets fmt, with fmt's text TOLD by the authors' own Lean function (tested against real Go, not proved from fmt's source: count such statements apart). THE CARD IS WHAT COUNTS. Prove the row's statement (the work); the ties are given (YtndafmjcelgnbaaGreatDoorTie.lean); close each card by the builder's one call (the guide's Derived/Test/ToyasCard.lean, 'card_holds'). Laid BY PROGRAM, IN A SANDBOX (cutbox-door.mjs). By AI agents, Wed Nov 11 2026. No macro, syntax, notation, axiom, sorry.
-/
import Derived.Test.YtndafmjcelgnbaaGreatDoorRows
import GoSem.ClaimSeven
namespace Go.Proofs.YtndafmjcelgnbaaGreatDoor
namespace Rows

/-- THE TIED CARD OF 'sosoptlaw02.ModularCombine'. -/
def modularCombineCard : Claim7 := { stood := { row := modularCombineRow, standIns := [], harness := (true, "efbf32e19f17eec35b4c3edaaca3248cebde7c6e9dd5cbda1ee3eeb7df77fd5d"), looks := false }, kinds := [], alts := [], laidByText := true, laidKinds := [.data, .data, .data], laidTests := true, laidLooks := .later }
def ModularCombineCardSaid : Prop := Claim7.holds Tryz.pinned (.plain (OpenSpec.ofChange modularCombineSpec)) modularCombineCard

/-- THE TIED CARD OF 'sosoptlaw02.ModularReconstruct'. -/
def modularReconstructCard : Claim7 := { stood := { row := modularReconstructRow, standIns := [], harness := (true, "efbf32e19f17eec35b4c3edaaca3248cebde7c6e9dd5cbda1ee3eeb7df77fd5d"), looks := false }, kinds := [], alts := [], laidByText := true, laidKinds := [.data, .data, .data], laidTests := true, laidLooks := .later }
def ModularReconstructCardSaid : Prop := Claim7.holds Tryz.pinned (.plain (OpenSpec.ofChange modularReconstructSpec)) modularReconstructCard

/-- THE TIED CARD OF 'sosoptlaw02.ModularPrimes'. -/
def modularPrimesCard : Claim7 := { stood := { row := modularPrimesRow, standIns := [], harness := (true, "efbf32e19f17eec35b4c3edaaca3248cebde7c6e9dd5cbda1ee3eeb7df77fd5d"), looks := false }, kinds := [], alts := [], laidByText := true, laidKinds := [.data, .data, .data], laidTests := true, laidLooks := .later }
def ModularPrimesCardSaid : Prop := Claim7.holds Tryz.pinned (.plain (OpenSpec.ofChange modularPrimesSpec)) modularPrimesCard

/-- THE TIED CARD OF 'sosoptlaw02.ModularInverse'. -/
def modularInverseCard : Claim7 := { stood := { row := modularInverseRow, standIns := [], harness := (true, "efbf32e19f17eec35b4c3edaaca3248cebde7c6e9dd5cbda1ee3eeb7df77fd5d"), looks := false }, kinds := [], alts := [], laidByText := true, laidKinds := [.data, .data, .data], laidTests := true, laidLooks := .later }
def ModularInverseCardSaid : Prop := Claim7.holds Tryz.pinned (.plain (OpenSpec.ofChange modularInverseSpec)) modularInverseCard

/-- THE TIED CARD OF 'sosoptlaw02.ModularSolution'. -/
def modularSolutionCard : Claim7 := { stood := { row := modularSolutionRow, standIns := [], harness := (true, "efbf32e19f17eec35b4c3edaaca3248cebde7c6e9dd5cbda1ee3eeb7df77fd5d"), looks := false }, kinds := [], alts := [], laidByText := true, laidKinds := [.data, .data, .data], laidTests := true, laidLooks := .later }
def ModularSolutionCardSaid : Prop := Claim7.holds Tryz.pinned (.plain (OpenSpec.ofChange modularSolutionSpec)) modularSolutionCard

/-- THE TIED CARD OF 'sosoptlaw02.ModularMatrices'. -/
def modularMatricesCard : Claim7 := { stood := { row := modularMatricesRow, standIns := [], harness := (true, "efbf32e19f17eec35b4c3edaaca3248cebde7c6e9dd5cbda1ee3eeb7df77fd5d"), looks := false }, kinds := [], alts := [], laidByText := true, laidKinds := [.data, .data, .data], laidTests := true, laidLooks := .later }
def ModularMatricesCardSaid : Prop := Claim7.holds Tryz.pinned (.plain (OpenSpec.ofChange modularMatricesSpec)) modularMatricesCard

/-- THE TIED CARD OF 'sosoptlaw02.ModularCombinePrimes'. -/
def modularCombinePrimesCard : Claim7 := { stood := { row := modularCombinePrimesRow, standIns := [], harness := (true, "efbf32e19f17eec35b4c3edaaca3248cebde7c6e9dd5cbda1ee3eeb7df77fd5d"), looks := false }, kinds := [], alts := [], laidByText := true, laidKinds := [.data, .data, .data], laidTests := true, laidLooks := .later }
def ModularCombinePrimesCardSaid : Prop := Claim7.holds Tryz.pinned (.plain (OpenSpec.ofChange modularCombinePrimesSpec)) modularCombinePrimesCard

/-- THE TIED CARD OF 'sosoptlaw02.ModularNumbers'. -/
def modularNumbersCard : Claim7 := { stood := { row := modularNumbersRow, standIns := [], harness := (true, "efbf32e19f17eec35b4c3edaaca3248cebde7c6e9dd5cbda1ee3eeb7df77fd5d"), looks := false }, kinds := [], alts := [], laidByText := true, laidKinds := [.data, .data, .data], laidTests := true, laidLooks := .later }
def ModularNumbersCardSaid : Prop := Claim7.holds Tryz.pinned (.plain (OpenSpec.ofChange modularNumbersSpec)) modularNumbersCard

/-- THE TIED CARD OF 'sosoptlaw02.ModularReduceField'. -/
def modularReduceFieldCard : Claim7 := { stood := { row := modularReduceFieldRow, standIns := [], harness := (true, "efbf32e19f17eec35b4c3edaaca3248cebde7c6e9dd5cbda1ee3eeb7df77fd5d"), looks := false }, kinds := [], alts := [], laidByText := true, laidKinds := [.data, .data, .data], laidTests := true, laidLooks := .later }
def ModularReduceFieldCardSaid : Prop := Claim7.holds Tryz.pinned (.plain (OpenSpec.ofChange modularReduceFieldSpec)) modularReduceFieldCard

/-- THE TIED CARD OF 'sosoptlaw02.ModularRoundTrip'. -/
def modularRoundTripCard : Claim7 := { stood := { row := modularRoundTripRow, standIns := [], harness := (true, "efbf32e19f17eec35b4c3edaaca3248cebde7c6e9dd5cbda1ee3eeb7df77fd5d"), looks := false }, kinds := [], alts := [], laidByText := true, laidKinds := [.data, .data, .data], laidTests := true, laidLooks := .later }
def ModularRoundTripCardSaid : Prop := Claim7.holds Tryz.pinned (.plain (OpenSpec.ofChange modularRoundTripSpec)) modularRoundTripCard

/-- THE SECOND FORM's CARD OF 'sosoptlaw02.ModularCombine'. -/
def modularCombineUptoCard : Claim7 := { stood := { row := modularCombineUptoRow, standIns := [], harness := (true, "efbf32e19f17eec35b4c3edaaca3248cebde7c6e9dd5cbda1ee3eeb7df77fd5d"), looks := false }, kinds := [], alts := [], laidByText := true, laidKinds := [.data, .data, .data], laidTests := true, laidLooks := .later }
def ModularCombineUptoCardSaid : Prop := Claim7.holds Tryz.pinned (.plain (OpenSpec.upto modularCombineSpec)) modularCombineUptoCard

/-- THE SECOND FORM's CARD OF 'sosoptlaw02.ModularReconstruct'. -/
def modularReconstructUptoCard : Claim7 := { stood := { row := modularReconstructUptoRow, standIns := [], harness := (true, "efbf32e19f17eec35b4c3edaaca3248cebde7c6e9dd5cbda1ee3eeb7df77fd5d"), looks := false }, kinds := [], alts := [], laidByText := true, laidKinds := [.data, .data, .data], laidTests := true, laidLooks := .later }
def ModularReconstructUptoCardSaid : Prop := Claim7.holds Tryz.pinned (.plain (OpenSpec.upto modularReconstructSpec)) modularReconstructUptoCard

/-- THE SECOND FORM's CARD OF 'sosoptlaw02.ModularPrimes'. -/
def modularPrimesUptoCard : Claim7 := { stood := { row := modularPrimesUptoRow, standIns := [], harness := (true, "efbf32e19f17eec35b4c3edaaca3248cebde7c6e9dd5cbda1ee3eeb7df77fd5d"), looks := false }, kinds := [], alts := [], laidByText := true, laidKinds := [.data, .data, .data], laidTests := true, laidLooks := .later }
def ModularPrimesUptoCardSaid : Prop := Claim7.holds Tryz.pinned (.plain (OpenSpec.upto modularPrimesSpec)) modularPrimesUptoCard

/-- THE SECOND FORM's CARD OF 'sosoptlaw02.ModularInverse'. -/
def modularInverseUptoCard : Claim7 := { stood := { row := modularInverseUptoRow, standIns := [], harness := (true, "efbf32e19f17eec35b4c3edaaca3248cebde7c6e9dd5cbda1ee3eeb7df77fd5d"), looks := false }, kinds := [], alts := [], laidByText := true, laidKinds := [.data, .data, .data], laidTests := true, laidLooks := .later }
def ModularInverseUptoCardSaid : Prop := Claim7.holds Tryz.pinned (.plain (OpenSpec.upto modularInverseSpec)) modularInverseUptoCard

/-- THE SECOND FORM's CARD OF 'sosoptlaw02.ModularSolution'. -/
def modularSolutionUptoCard : Claim7 := { stood := { row := modularSolutionUptoRow, standIns := [], harness := (true, "efbf32e19f17eec35b4c3edaaca3248cebde7c6e9dd5cbda1ee3eeb7df77fd5d"), looks := false }, kinds := [], alts := [], laidByText := true, laidKinds := [.data, .data, .data], laidTests := true, laidLooks := .later }
def ModularSolutionUptoCardSaid : Prop := Claim7.holds Tryz.pinned (.plain (OpenSpec.upto modularSolutionSpec)) modularSolutionUptoCard

/-- THE SECOND FORM's CARD OF 'sosoptlaw02.ModularMatrices'. -/
def modularMatricesUptoCard : Claim7 := { stood := { row := modularMatricesUptoRow, standIns := [], harness := (true, "efbf32e19f17eec35b4c3edaaca3248cebde7c6e9dd5cbda1ee3eeb7df77fd5d"), looks := false }, kinds := [], alts := [], laidByText := true, laidKinds := [.data, .data, .data], laidTests := true, laidLooks := .later }
def ModularMatricesUptoCardSaid : Prop := Claim7.holds Tryz.pinned (.plain (OpenSpec.upto modularMatricesSpec)) modularMatricesUptoCard

/-- THE SECOND FORM's CARD OF 'sosoptlaw02.ModularCombinePrimes'. -/
def modularCombinePrimesUptoCard : Claim7 := { stood := { row := modularCombinePrimesUptoRow, standIns := [], harness := (true, "efbf32e19f17eec35b4c3edaaca3248cebde7c6e9dd5cbda1ee3eeb7df77fd5d"), looks := false }, kinds := [], alts := [], laidByText := true, laidKinds := [.data, .data, .data], laidTests := true, laidLooks := .later }
def ModularCombinePrimesUptoCardSaid : Prop := Claim7.holds Tryz.pinned (.plain (OpenSpec.upto modularCombinePrimesSpec)) modularCombinePrimesUptoCard

/-- THE SECOND FORM's CARD OF 'sosoptlaw02.ModularNumbers'. -/
def modularNumbersUptoCard : Claim7 := { stood := { row := modularNumbersUptoRow, standIns := [], harness := (true, "efbf32e19f17eec35b4c3edaaca3248cebde7c6e9dd5cbda1ee3eeb7df77fd5d"), looks := false }, kinds := [], alts := [], laidByText := true, laidKinds := [.data, .data, .data], laidTests := true, laidLooks := .later }
def ModularNumbersUptoCardSaid : Prop := Claim7.holds Tryz.pinned (.plain (OpenSpec.upto modularNumbersSpec)) modularNumbersUptoCard

/-- THE SECOND FORM's CARD OF 'sosoptlaw02.ModularReduceField'. -/
def modularReduceFieldUptoCard : Claim7 := { stood := { row := modularReduceFieldUptoRow, standIns := [], harness := (true, "efbf32e19f17eec35b4c3edaaca3248cebde7c6e9dd5cbda1ee3eeb7df77fd5d"), looks := false }, kinds := [], alts := [], laidByText := true, laidKinds := [.data, .data, .data], laidTests := true, laidLooks := .later }
def ModularReduceFieldUptoCardSaid : Prop := Claim7.holds Tryz.pinned (.plain (OpenSpec.upto modularReduceFieldSpec)) modularReduceFieldUptoCard

/-- THE SECOND FORM's CARD OF 'sosoptlaw02.ModularRoundTrip'. -/
def modularRoundTripUptoCard : Claim7 := { stood := { row := modularRoundTripUptoRow, standIns := [], harness := (true, "efbf32e19f17eec35b4c3edaaca3248cebde7c6e9dd5cbda1ee3eeb7df77fd5d"), looks := false }, kinds := [], alts := [], laidByText := true, laidKinds := [.data, .data, .data], laidTests := true, laidLooks := .later }
def ModularRoundTripUptoCardSaid : Prop := Claim7.holds Tryz.pinned (.plain (OpenSpec.upto modularRoundTripSpec)) modularRoundTripUptoCard
end Rows
end Go.Proofs.YtndafmjcelgnbaaGreatDoor
