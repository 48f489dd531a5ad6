/-
  DERIVED. GIVEN WITH THE SEED: THE CARDS: each row of YtbgkofgoeoiciaaGreatDoorRows.lean that lists a variable, with what it lists TIED to the program's text (the seventh form; the later family's looks); each row that meets fmt, with fmt's text TOLD by the authors' own Lean function (tested against real Go, not proved from fmt's source: count such statements apart). THE CARD IS WHAT COUNTS. Prove the row's statement (the work); the ties are given (YtbgkofgoeoiciaaGreatDoorTie.lean); close each card by the builder's one call (the guide's Derived/Test/ToyasCard.lean, 'card_holds'). Laid BY PROGRAM, IN A SANDBOX (cutbox-door.mjs). By AI agents, Wed Nov 11 2026. No macro, syntax, notation, axiom, sorry.
-/
import Derived.Test.YtbgkofgoeoiciaaGreatDoorRows
import GoSem.ClaimSeven
namespace Go.Proofs.YtbgkofgoeoiciaaGreatDoor
namespace Rows

/-- THE TIED CARD OF 'sosoptlaw11.SurdMake'. -/
def surdMakeCard : Claim7 := { stood := { row := surdMakeRow, standIns := [], harness := (true, "cb91d4591549cbe4da75a1abb8ff00c30d967b49b46c922ea78d407f4f61964d"), looks := true }, kinds := [], alts := [], laidByText := true, laidKinds := [.data, .data, .data], laidTests := true, laidLooks := .later }
def SurdMakeCardSaid : Prop := Claim7.holds Tryz.pinned (.plain (OpenSpec.ofChange surdMakeSpec)) surdMakeCard

/-- THE TIED CARD OF 'sosoptlaw11.SurdSign'. -/
def surdSignCard : Claim7 := { stood := { row := surdSignRow, standIns := [], harness := (true, "cb91d4591549cbe4da75a1abb8ff00c30d967b49b46c922ea78d407f4f61964d"), looks := true }, kinds := [], alts := [], laidByText := true, laidKinds := [.data, .data, .data], laidTests := true, laidLooks := .later }
def SurdSignCardSaid : Prop := Claim7.holds Tryz.pinned (.plain (OpenSpec.ofChange surdSignSpec)) surdSignCard

/-- THE TIED CARD OF 'sosoptlaw11.SurdField'. -/
def surdFieldCard : Claim7 := { stood := { row := surdFieldRow, standIns := [], harness := (true, "cb91d4591549cbe4da75a1abb8ff00c30d967b49b46c922ea78d407f4f61964d"), looks := true }, kinds := [], alts := [], laidByText := true, laidKinds := [.data, .data, .data], laidTests := true, laidLooks := .later }
def SurdFieldCardSaid : Prop := Claim7.holds Tryz.pinned (.plain (OpenSpec.ofChange surdFieldSpec)) surdFieldCard

/-- THE TIED CARD OF 'sosoptlaw11.SurdArithmetic'. -/
def surdArithmeticCard : Claim7 := { stood := { row := surdArithmeticRow, standIns := [], harness := (true, "cb91d4591549cbe4da75a1abb8ff00c30d967b49b46c922ea78d407f4f61964d"), looks := true }, kinds := [], alts := [], laidByText := true, laidKinds := [.data, .data, .data], laidTests := true, laidLooks := .later }
def SurdArithmeticCardSaid : Prop := Claim7.holds Tryz.pinned (.plain (OpenSpec.ofChange surdArithmeticSpec)) surdArithmeticCard

/-- THE TIED CARD OF 'sosoptlaw02.ModularSolution'. -/
def modularSolutionCard : Claim7 := { stood := { row := modularSolutionRow, standIns := [], harness := (true, "cb91d4591549cbe4da75a1abb8ff00c30d967b49b46c922ea78d407f4f61964d"), looks := true }, kinds := [], alts := [], laidByText := true, laidKinds := [.data, .data, .data], laidTests := true, laidLooks := .later }
def ModularSolutionCardSaid : Prop := Claim7.holds Tryz.pinned (.plain (OpenSpec.ofChange modularSolutionSpec)) modularSolutionCard

/-- THE TIED CARD OF 'sosoptlaw02.ModularMatrices'. -/
def modularMatricesCard : Claim7 := { stood := { row := modularMatricesRow, standIns := [], harness := (true, "cb91d4591549cbe4da75a1abb8ff00c30d967b49b46c922ea78d407f4f61964d"), looks := true }, kinds := [], alts := [], laidByText := true, laidKinds := [.data, .data, .data], laidTests := true, laidLooks := .later }
def ModularMatricesCardSaid : Prop := Claim7.holds Tryz.pinned (.plain (OpenSpec.ofChange modularMatricesSpec)) modularMatricesCard

/-- THE TIED CARD OF 'sosoptlaw11.SurdNorm'. -/
def surdNormCard : Claim7 := { stood := { row := surdNormRow, standIns := [], harness := (true, "cb91d4591549cbe4da75a1abb8ff00c30d967b49b46c922ea78d407f4f61964d"), looks := true }, kinds := [], alts := [], laidByText := true, laidKinds := [.data, .data, .data], laidTests := true, laidLooks := .later }
def SurdNormCardSaid : Prop := Claim7.holds Tryz.pinned (.plain (OpenSpec.ofChange surdNormSpec)) surdNormCard

/-- THE TIED CARD OF 'sosoptlaw01.RationalRounding'. -/
def rationalRoundingCard : Claim7 := { stood := { row := rationalRoundingRow, standIns := [], harness := (true, "cb91d4591549cbe4da75a1abb8ff00c30d967b49b46c922ea78d407f4f61964d"), looks := true }, kinds := [], alts := [], laidByText := true, laidKinds := [.data, .data, .data], laidTests := true, laidLooks := .later }
def RationalRoundingCardSaid : Prop := Claim7.holds Tryz.pinned (.plain (OpenSpec.ofChange rationalRoundingSpec)) rationalRoundingCard

/-- THE TIED CARD OF 'sosoptlaw02.ModularRoundTrip'. -/
def modularRoundTripCard : Claim7 := { stood := { row := modularRoundTripRow, standIns := [], harness := (true, "cb91d4591549cbe4da75a1abb8ff00c30d967b49b46c922ea78d407f4f61964d"), looks := true }, kinds := [], alts := [], laidByText := true, laidKinds := [.data, .data, .data], laidTests := true, laidLooks := .later }
def ModularRoundTripCardSaid : Prop := Claim7.holds Tryz.pinned (.plain (OpenSpec.ofChange modularRoundTripSpec)) modularRoundTripCard

/-- THE TIED CARD OF 'sosoptlaw11.SurdFactor'. -/
def surdFactorCard : Claim7 := { stood := { row := surdFactorRow, standIns := [], harness := (true, "cb91d4591549cbe4da75a1abb8ff00c30d967b49b46c922ea78d407f4f61964d"), looks := true }, kinds := [], alts := [], laidByText := true, laidKinds := [.data, .data, .data], laidTests := true, laidLooks := .later }
def SurdFactorCardSaid : Prop := Claim7.holds Tryz.pinned (.plain (OpenSpec.ofChange surdFactorSpec)) surdFactorCard

/-- THE TIED CARD OF 'sosoptlaw11.SurdFactorRaw'. -/
def surdFactorRawCard : Claim7 := { stood := { row := surdFactorRawRow, standIns := [], harness := (true, "cb91d4591549cbe4da75a1abb8ff00c30d967b49b46c922ea78d407f4f61964d"), looks := true }, kinds := [], alts := [], laidByText := true, laidKinds := [.data, .data, .data], laidTests := true, laidLooks := .later }
def SurdFactorRawCardSaid : Prop := Claim7.holds Tryz.pinned (.plain (OpenSpec.ofChange surdFactorRawSpec)) surdFactorRawCard

/-- THE TIED CARD OF 'sosoptlaw01.RationalValid'. -/
def rationalValidCard : Claim7 := { stood := { row := rationalValidRow, standIns := [], harness := (true, "cb91d4591549cbe4da75a1abb8ff00c30d967b49b46c922ea78d407f4f61964d"), looks := true }, kinds := [], alts := [], laidByText := true, laidKinds := [.data, .data, .data, .sentinel, .sentinel], laidTests := true, laidLooks := .later }
def RationalValidCardSaid : Prop := Claim7.holds Tryz.pinned (.plain (OpenSpec.ofChange rationalValidSpec)) rationalValidCard

/-- THE SECOND FORM's CARD OF 'sosoptlaw11.SurdMake'. -/
def surdMakeUptoCard : Claim7 := { stood := { row := surdMakeUptoRow, standIns := [], harness := (true, "cb91d4591549cbe4da75a1abb8ff00c30d967b49b46c922ea78d407f4f61964d"), looks := true }, kinds := [], alts := [], laidByText := true, laidKinds := [.data, .data, .data], laidTests := true, laidLooks := .later }
def SurdMakeUptoCardSaid : Prop := Claim7.holds Tryz.pinned (.plain (OpenSpec.upto surdMakeSpec)) surdMakeUptoCard

/-- THE SECOND FORM's CARD OF 'sosoptlaw11.SurdSign'. -/
def surdSignUptoCard : Claim7 := { stood := { row := surdSignUptoRow, standIns := [], harness := (true, "cb91d4591549cbe4da75a1abb8ff00c30d967b49b46c922ea78d407f4f61964d"), looks := true }, kinds := [], alts := [], laidByText := true, laidKinds := [.data, .data, .data], laidTests := true, laidLooks := .later }
def SurdSignUptoCardSaid : Prop := Claim7.holds Tryz.pinned (.plain (OpenSpec.upto surdSignSpec)) surdSignUptoCard

/-- THE SECOND FORM's CARD OF 'sosoptlaw11.SurdField'. -/
def surdFieldUptoCard : Claim7 := { stood := { row := surdFieldUptoRow, standIns := [], harness := (true, "cb91d4591549cbe4da75a1abb8ff00c30d967b49b46c922ea78d407f4f61964d"), looks := true }, kinds := [], alts := [], laidByText := true, laidKinds := [.data, .data, .data], laidTests := true, laidLooks := .later }
def SurdFieldUptoCardSaid : Prop := Claim7.holds Tryz.pinned (.plain (OpenSpec.upto surdFieldSpec)) surdFieldUptoCard

/-- THE SECOND FORM's CARD OF 'sosoptlaw11.SurdArithmetic'. -/
def surdArithmeticUptoCard : Claim7 := { stood := { row := surdArithmeticUptoRow, standIns := [], harness := (true, "cb91d4591549cbe4da75a1abb8ff00c30d967b49b46c922ea78d407f4f61964d"), looks := true }, kinds := [], alts := [], laidByText := true, laidKinds := [.data, .data, .data], laidTests := true, laidLooks := .later }
def SurdArithmeticUptoCardSaid : Prop := Claim7.holds Tryz.pinned (.plain (OpenSpec.upto surdArithmeticSpec)) surdArithmeticUptoCard

/-- THE SECOND FORM's CARD OF 'sosoptlaw02.ModularSolution'. -/
def modularSolutionUptoCard : Claim7 := { stood := { row := modularSolutionUptoRow, standIns := [], harness := (true, "cb91d4591549cbe4da75a1abb8ff00c30d967b49b46c922ea78d407f4f61964d"), looks := true }, kinds := [], alts := [], laidByText := true, laidKinds := [.data, .data, .data], laidTests := true, laidLooks := .later }
def ModularSolutionUptoCardSaid : Prop := Claim7.holds Tryz.pinned (.plain (OpenSpec.upto modularSolutionSpec)) modularSolutionUptoCard

/-- THE SECOND FORM's CARD OF 'sosoptlaw02.ModularMatrices'. -/
def modularMatricesUptoCard : Claim7 := { stood := { row := modularMatricesUptoRow, standIns := [], harness := (true, "cb91d4591549cbe4da75a1abb8ff00c30d967b49b46c922ea78d407f4f61964d"), looks := true }, kinds := [], alts := [], laidByText := true, laidKinds := [.data, .data, .data], laidTests := true, laidLooks := .later }
def ModularMatricesUptoCardSaid : Prop := Claim7.holds Tryz.pinned (.plain (OpenSpec.upto modularMatricesSpec)) modularMatricesUptoCard

/-- THE SECOND FORM's CARD OF 'sosoptlaw11.SurdNorm'. -/
def surdNormUptoCard : Claim7 := { stood := { row := surdNormUptoRow, standIns := [], harness := (true, "cb91d4591549cbe4da75a1abb8ff00c30d967b49b46c922ea78d407f4f61964d"), looks := true }, kinds := [], alts := [], laidByText := true, laidKinds := [.data, .data, .data], laidTests := true, laidLooks := .later }
def SurdNormUptoCardSaid : Prop := Claim7.holds Tryz.pinned (.plain (OpenSpec.upto surdNormSpec)) surdNormUptoCard

/-- THE SECOND FORM's CARD OF 'sosoptlaw01.RationalRounding'. -/
def rationalRoundingUptoCard : Claim7 := { stood := { row := rationalRoundingUptoRow, standIns := [], harness := (true, "cb91d4591549cbe4da75a1abb8ff00c30d967b49b46c922ea78d407f4f61964d"), looks := true }, kinds := [], alts := [], laidByText := true, laidKinds := [.data, .data, .data], laidTests := true, laidLooks := .later }
def RationalRoundingUptoCardSaid : Prop := Claim7.holds Tryz.pinned (.plain (OpenSpec.upto rationalRoundingSpec)) rationalRoundingUptoCard

/-- THE SECOND FORM's CARD OF 'sosoptlaw02.ModularRoundTrip'. -/
def modularRoundTripUptoCard : Claim7 := { stood := { row := modularRoundTripUptoRow, standIns := [], harness := (true, "cb91d4591549cbe4da75a1abb8ff00c30d967b49b46c922ea78d407f4f61964d"), looks := true }, kinds := [], alts := [], laidByText := true, laidKinds := [.data, .data, .data], laidTests := true, laidLooks := .later }
def ModularRoundTripUptoCardSaid : Prop := Claim7.holds Tryz.pinned (.plain (OpenSpec.upto modularRoundTripSpec)) modularRoundTripUptoCard

/-- THE SECOND FORM's CARD OF 'sosoptlaw11.SurdFactor'. -/
def surdFactorUptoCard : Claim7 := { stood := { row := surdFactorUptoRow, standIns := [], harness := (true, "cb91d4591549cbe4da75a1abb8ff00c30d967b49b46c922ea78d407f4f61964d"), looks := true }, kinds := [], alts := [], laidByText := true, laidKinds := [.data, .data, .data], laidTests := true, laidLooks := .later }
def SurdFactorUptoCardSaid : Prop := Claim7.holds Tryz.pinned (.plain (OpenSpec.upto surdFactorSpec)) surdFactorUptoCard

/-- THE SECOND FORM's CARD OF 'sosoptlaw11.SurdFactorRaw'. -/
def surdFactorRawUptoCard : Claim7 := { stood := { row := surdFactorRawUptoRow, standIns := [], harness := (true, "cb91d4591549cbe4da75a1abb8ff00c30d967b49b46c922ea78d407f4f61964d"), looks := true }, kinds := [], alts := [], laidByText := true, laidKinds := [.data, .data, .data], laidTests := true, laidLooks := .later }
def SurdFactorRawUptoCardSaid : Prop := Claim7.holds Tryz.pinned (.plain (OpenSpec.upto surdFactorRawSpec)) surdFactorRawUptoCard

/-- THE SECOND FORM's CARD OF 'sosoptlaw01.RationalValid'. -/
def rationalValidUptoCard : Claim7 := { stood := { row := rationalValidUptoRow, standIns := [], harness := (true, "cb91d4591549cbe4da75a1abb8ff00c30d967b49b46c922ea78d407f4f61964d"), looks := true }, kinds := [], alts := [], laidByText := true, laidKinds := [.data, .data, .data, .sentinel, .sentinel], laidTests := true, laidLooks := .later }
def RationalValidUptoCardSaid : Prop := Claim7.holds Tryz.pinned (.plain (OpenSpec.upto rationalValidSpec)) rationalValidUptoCard
end Rows
end Go.Proofs.YtbgkofgoeoiciaaGreatDoor
