/-
  DERIVED. GIVEN WITH THE SEED: THE CARDS: each row of YtibipjlohahekaaGreatDoorRows.lean that lists a variable, with what it lists TIED to the program's text (the seventh form; the later family's looks); each row that meets fmt, with fmt's text TOLD by the authors' own Lean function (tested against real Go, not proved from fmt's source: count such statements apart). THE CARD IS WHAT COUNTS. Prove the row's statement (the work); the ties are given (YtibipjlohahekaaGreatDoorTie.lean); close each card by the builder's one call (the guide's Derived/Test/ToyasCard.lean, 'card_holds'). Laid BY PROGRAM, IN A SANDBOX (cutbox-door.mjs). By AI agents, Wed Nov 11 2026. No macro, syntax, notation, axiom, sorry.
-/
import Derived.Test.YtibipjlohahekaaGreatDoorRows
import GoSem.ClaimSeven
namespace Go.Proofs.YtibipjlohahekaaGreatDoor
namespace Rows

/-- THE TIED CARD OF 'sosoptlaw01.RationalParse'. -/
def rationalParseCard : Claim7 := { stood := { row := rationalParseRow, standIns := [], harness := (true, "43a48d058dd5c4ae42f582520b1470716c1d47dae27ae04a5249e7d0bd2ee21b"), looks := true }, kinds := [], alts := [], laidByText := true, laidKinds := [.data, .data, .data], laidTests := true, laidLooks := .later }
def RationalParseCardSaid : Prop := Claim7.holds Tryz.pinned (.plain (OpenSpec.ofChange rationalParseSpec)) rationalParseCard

/-- THE TIED CARD OF 'sosoptlaw01.RationalLong'. -/
def rationalLongCard : Claim7 := { stood := { row := rationalLongRow, standIns := [], harness := (true, "43a48d058dd5c4ae42f582520b1470716c1d47dae27ae04a5249e7d0bd2ee21b"), looks := true }, kinds := [], alts := [], laidByText := true, laidKinds := [.data, .data, .data], laidTests := true, laidLooks := .later }
def RationalLongCardSaid : Prop := Claim7.holds Tryz.pinned (.plain (OpenSpec.ofChange rationalLongSpec)) rationalLongCard

/-- THE TIED CARD OF 'sosoptlaw01.RationalArithmetic'. -/
def rationalArithmeticCard : Claim7 := { stood := { row := rationalArithmeticRow, standIns := [], harness := (true, "43a48d058dd5c4ae42f582520b1470716c1d47dae27ae04a5249e7d0bd2ee21b"), looks := true }, kinds := [], alts := [], laidByText := true, laidKinds := [.data, .data, .data], laidTests := true, laidLooks := .later }
def RationalArithmeticCardSaid : Prop := Claim7.holds Tryz.pinned (.plain (OpenSpec.ofChange rationalArithmeticSpec)) rationalArithmeticCard

/-- THE TIED CARD OF 'sosoptlaw01.RationalField'. -/
def rationalFieldCard : Claim7 := { stood := { row := rationalFieldRow, standIns := [], harness := (true, "43a48d058dd5c4ae42f582520b1470716c1d47dae27ae04a5249e7d0bd2ee21b"), looks := true }, kinds := [], alts := [], laidByText := true, laidKinds := [.data, .data, .data], laidTests := true, laidLooks := .later }
def RationalFieldCardSaid : Prop := Claim7.holds Tryz.pinned (.plain (OpenSpec.ofChange rationalFieldSpec)) rationalFieldCard

/-- THE TIED CARD OF 'sosoptlaw01.RationalPow'. -/
def rationalPowCard : Claim7 := { stood := { row := rationalPowRow, standIns := [], harness := (true, "43a48d058dd5c4ae42f582520b1470716c1d47dae27ae04a5249e7d0bd2ee21b"), looks := true }, kinds := [], alts := [], laidByText := true, laidKinds := [.data, .data, .data], laidTests := true, laidLooks := .later }
def RationalPowCardSaid : Prop := Claim7.holds Tryz.pinned (.plain (OpenSpec.ofChange rationalPowSpec)) rationalPowCard

/-- THE TIED CARD OF 'sosoptlaw01.RationalGCD'. -/
def rationalGCDCard : Claim7 := { stood := { row := rationalGCDRow, standIns := [], harness := (true, "43a48d058dd5c4ae42f582520b1470716c1d47dae27ae04a5249e7d0bd2ee21b"), looks := true }, kinds := [], alts := [], laidByText := true, laidKinds := [.data, .data, .data], laidTests := true, laidLooks := .later }
def RationalGCDCardSaid : Prop := Claim7.holds Tryz.pinned (.plain (OpenSpec.ofChange rationalGCDSpec)) rationalGCDCard

/-- THE TIED CARD OF 'sosoptlaw01.RationalRounding'. -/
def rationalRoundingCard : Claim7 := { stood := { row := rationalRoundingRow, standIns := [], harness := (true, "43a48d058dd5c4ae42f582520b1470716c1d47dae27ae04a5249e7d0bd2ee21b"), looks := true }, kinds := [], alts := [], laidByText := true, laidKinds := [.data, .data, .data], laidTests := true, laidLooks := .later }
def RationalRoundingCardSaid : Prop := Claim7.holds Tryz.pinned (.plain (OpenSpec.ofChange rationalRoundingSpec)) rationalRoundingCard

/-- THE TIED CARD OF 'sosoptlaw01.RationalRoots'. -/
def rationalRootsCard : Claim7 := { stood := { row := rationalRootsRow, standIns := [], harness := (true, "43a48d058dd5c4ae42f582520b1470716c1d47dae27ae04a5249e7d0bd2ee21b"), looks := true }, kinds := [], alts := [], laidByText := true, laidKinds := [.data, .data, .data], laidTests := true, laidLooks := .later }
def RationalRootsCardSaid : Prop := Claim7.holds Tryz.pinned (.plain (OpenSpec.ofChange rationalRootsSpec)) rationalRootsCard

/-- THE TIED CARD OF 'sosoptlaw01.RationalParts'. -/
def rationalPartsCard : Claim7 := { stood := { row := rationalPartsRow, standIns := [], harness := (true, "43a48d058dd5c4ae42f582520b1470716c1d47dae27ae04a5249e7d0bd2ee21b"), looks := true }, kinds := [], alts := [], laidByText := true, laidKinds := [.data, .data, .data], laidTests := true, laidLooks := .later }
def RationalPartsCardSaid : Prop := Claim7.holds Tryz.pinned (.plain (OpenSpec.ofChange rationalPartsSpec)) rationalPartsCard

/-- THE TIED CARD OF 'sosoptlaw01.RationalValid'. -/
def rationalValidCard : Claim7 := { stood := { row := rationalValidRow, standIns := [], harness := (true, "43a48d058dd5c4ae42f582520b1470716c1d47dae27ae04a5249e7d0bd2ee21b"), looks := true }, kinds := [], alts := [], laidByText := true, laidKinds := [.data, .data, .data, .sentinel, .sentinel], laidTests := true, laidLooks := .later }
def RationalValidCardSaid : Prop := Claim7.holds Tryz.pinned (.plain (OpenSpec.ofChange rationalValidSpec)) rationalValidCard

/-- THE SECOND FORM's CARD OF 'sosoptlaw01.RationalParse'. -/
def rationalParseUptoCard : Claim7 := { stood := { row := rationalParseUptoRow, standIns := [], harness := (true, "43a48d058dd5c4ae42f582520b1470716c1d47dae27ae04a5249e7d0bd2ee21b"), looks := true }, kinds := [], alts := [], laidByText := true, laidKinds := [.data, .data, .data], laidTests := true, laidLooks := .later }
def RationalParseUptoCardSaid : Prop := Claim7.holds Tryz.pinned (.plain (OpenSpec.upto rationalParseSpec)) rationalParseUptoCard

/-- THE SECOND FORM's CARD OF 'sosoptlaw01.RationalLong'. -/
def rationalLongUptoCard : Claim7 := { stood := { row := rationalLongUptoRow, standIns := [], harness := (true, "43a48d058dd5c4ae42f582520b1470716c1d47dae27ae04a5249e7d0bd2ee21b"), looks := true }, kinds := [], alts := [], laidByText := true, laidKinds := [.data, .data, .data], laidTests := true, laidLooks := .later }
def RationalLongUptoCardSaid : Prop := Claim7.holds Tryz.pinned (.plain (OpenSpec.upto rationalLongSpec)) rationalLongUptoCard

/-- THE SECOND FORM's CARD OF 'sosoptlaw01.RationalArithmetic'. -/
def rationalArithmeticUptoCard : Claim7 := { stood := { row := rationalArithmeticUptoRow, standIns := [], harness := (true, "43a48d058dd5c4ae42f582520b1470716c1d47dae27ae04a5249e7d0bd2ee21b"), looks := true }, kinds := [], alts := [], laidByText := true, laidKinds := [.data, .data, .data], laidTests := true, laidLooks := .later }
def RationalArithmeticUptoCardSaid : Prop := Claim7.holds Tryz.pinned (.plain (OpenSpec.upto rationalArithmeticSpec)) rationalArithmeticUptoCard

/-- THE SECOND FORM's CARD OF 'sosoptlaw01.RationalField'. -/
def rationalFieldUptoCard : Claim7 := { stood := { row := rationalFieldUptoRow, standIns := [], harness := (true, "43a48d058dd5c4ae42f582520b1470716c1d47dae27ae04a5249e7d0bd2ee21b"), looks := true }, kinds := [], alts := [], laidByText := true, laidKinds := [.data, .data, .data], laidTests := true, laidLooks := .later }
def RationalFieldUptoCardSaid : Prop := Claim7.holds Tryz.pinned (.plain (OpenSpec.upto rationalFieldSpec)) rationalFieldUptoCard

/-- THE SECOND FORM's CARD OF 'sosoptlaw01.RationalPow'. -/
def rationalPowUptoCard : Claim7 := { stood := { row := rationalPowUptoRow, standIns := [], harness := (true, "43a48d058dd5c4ae42f582520b1470716c1d47dae27ae04a5249e7d0bd2ee21b"), looks := true }, kinds := [], alts := [], laidByText := true, laidKinds := [.data, .data, .data], laidTests := true, laidLooks := .later }
def RationalPowUptoCardSaid : Prop := Claim7.holds Tryz.pinned (.plain (OpenSpec.upto rationalPowSpec)) rationalPowUptoCard

/-- THE SECOND FORM's CARD OF 'sosoptlaw01.RationalGCD'. -/
def rationalGCDUptoCard : Claim7 := { stood := { row := rationalGCDUptoRow, standIns := [], harness := (true, "43a48d058dd5c4ae42f582520b1470716c1d47dae27ae04a5249e7d0bd2ee21b"), looks := true }, kinds := [], alts := [], laidByText := true, laidKinds := [.data, .data, .data], laidTests := true, laidLooks := .later }
def RationalGCDUptoCardSaid : Prop := Claim7.holds Tryz.pinned (.plain (OpenSpec.upto rationalGCDSpec)) rationalGCDUptoCard

/-- THE SECOND FORM's CARD OF 'sosoptlaw01.RationalRounding'. -/
def rationalRoundingUptoCard : Claim7 := { stood := { row := rationalRoundingUptoRow, standIns := [], harness := (true, "43a48d058dd5c4ae42f582520b1470716c1d47dae27ae04a5249e7d0bd2ee21b"), looks := true }, kinds := [], alts := [], laidByText := true, laidKinds := [.data, .data, .data], laidTests := true, laidLooks := .later }
def RationalRoundingUptoCardSaid : Prop := Claim7.holds Tryz.pinned (.plain (OpenSpec.upto rationalRoundingSpec)) rationalRoundingUptoCard

/-- THE SECOND FORM's CARD OF 'sosoptlaw01.RationalRoots'. -/
def rationalRootsUptoCard : Claim7 := { stood := { row := rationalRootsUptoRow, standIns := [], harness := (true, "43a48d058dd5c4ae42f582520b1470716c1d47dae27ae04a5249e7d0bd2ee21b"), looks := true }, kinds := [], alts := [], laidByText := true, laidKinds := [.data, .data, .data], laidTests := true, laidLooks := .later }
def RationalRootsUptoCardSaid : Prop := Claim7.holds Tryz.pinned (.plain (OpenSpec.upto rationalRootsSpec)) rationalRootsUptoCard

/-- THE SECOND FORM's CARD OF 'sosoptlaw01.RationalParts'. -/
def rationalPartsUptoCard : Claim7 := { stood := { row := rationalPartsUptoRow, standIns := [], harness := (true, "43a48d058dd5c4ae42f582520b1470716c1d47dae27ae04a5249e7d0bd2ee21b"), looks := true }, kinds := [], alts := [], laidByText := true, laidKinds := [.data, .data, .data], laidTests := true, laidLooks := .later }
def RationalPartsUptoCardSaid : Prop := Claim7.holds Tryz.pinned (.plain (OpenSpec.upto rationalPartsSpec)) rationalPartsUptoCard

/-- THE SECOND FORM's CARD OF 'sosoptlaw01.RationalValid'. -/
def rationalValidUptoCard : Claim7 := { stood := { row := rationalValidUptoRow, standIns := [], harness := (true, "43a48d058dd5c4ae42f582520b1470716c1d47dae27ae04a5249e7d0bd2ee21b"), looks := true }, kinds := [], alts := [], laidByText := true, laidKinds := [.data, .data, .data, .sentinel, .sentinel], laidTests := true, laidLooks := .later }
def RationalValidUptoCardSaid : Prop := Claim7.holds Tryz.pinned (.plain (OpenSpec.upto rationalValidSpec)) rationalValidUptoCard
end Rows
end Go.Proofs.YtibipjlohahekaaGreatDoor
