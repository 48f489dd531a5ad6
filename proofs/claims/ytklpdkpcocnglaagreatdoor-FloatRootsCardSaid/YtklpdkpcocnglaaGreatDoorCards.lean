/-
  DERIVED. GIVEN WITH THE SEED: THE CARDS: each row of YtklpdkpcocnglaaGreatDoorRows.lean that lists a variable, with what it lists TIED to the program's text (the seventh form; the later family's looks); each row that meets fmt, with fmt's text TOLD by the authors' own Lean function (tested against real Go, not proved from fmt's source: count such statements apart). THE CARD IS WHAT COUNTS. Prove the row's statement (the work); the ties are given (YtklpdkpcocnglaaGreatDoorTie.lean); close each card by the builder's one call (the guide's Derived/Test/ToyasCard.lean, 'card_holds'). Laid BY PROGRAM, IN A SANDBOX (cutbox-door.mjs). By AI agents, Wed Nov 11 2026. No macro, syntax, notation, axiom, sorry.
-/
import Derived.Test.YtklpdkpcocnglaaGreatDoorRows
import GoSem.ClaimSeven
namespace Go.Proofs.YtklpdkpcocnglaaGreatDoor
namespace Rows

/-- THE TIED CARD OF 'sosoptlaw23.FloatRounds'. -/
def floatRoundsCard : Claim7 := { stood := { row := floatRoundsRow, standIns := [], harness := (true, "6bcfbfb3312998983b6ff4e4849e3750beae617b7f0aa2af2e0f05c5fa874119"), looks := true }, kinds := [], alts := [], laidByText := true, laidKinds := [.data, .data, .data, .sentinel, .sentinel], laidTests := true, laidLooks := .later }
def FloatRoundsCardSaid : Prop := Claim7.holds Tryz.pinned (.plain (OpenSpec.ofChange floatRoundsSpec)) floatRoundsCard

/-- THE TIED CARD OF 'sosoptlaw23.FloatNear'. -/
def floatNearCard : Claim7 := { stood := { row := floatNearRow, standIns := [], harness := (true, "6bcfbfb3312998983b6ff4e4849e3750beae617b7f0aa2af2e0f05c5fa874119"), looks := true }, kinds := [], alts := [], laidByText := true, laidKinds := [.data, .data, .data, .sentinel, .sentinel], laidTests := true, laidLooks := .later }
def FloatNearCardSaid : Prop := Claim7.holds Tryz.pinned (.plain (OpenSpec.ofChange floatNearSpec)) floatNearCard

/-- THE TIED CARD OF 'sosoptlaw23.FloatShifts'. -/
def floatShiftsCard : Claim7 := { stood := { row := floatShiftsRow, standIns := [], harness := (true, "6bcfbfb3312998983b6ff4e4849e3750beae617b7f0aa2af2e0f05c5fa874119"), looks := true }, kinds := [], alts := [], laidByText := true, laidKinds := [.data, .data, .data, .sentinel, .sentinel], laidTests := true, laidLooks := .later }
def FloatShiftsCardSaid : Prop := Claim7.holds Tryz.pinned (.plain (OpenSpec.ofChange floatShiftsSpec)) floatShiftsCard

/-- THE TIED CARD OF 'sosoptlaw23.FloatValid'. -/
def floatValidCard : Claim7 := { stood := { row := floatValidRow, standIns := [], harness := (true, "6bcfbfb3312998983b6ff4e4849e3750beae617b7f0aa2af2e0f05c5fa874119"), looks := true }, kinds := [], alts := [], laidByText := true, laidKinds := [.data, .data, .data, .sentinel, .sentinel], laidTests := true, laidLooks := .later }
def FloatValidCardSaid : Prop := Claim7.holds Tryz.pinned (.plain (OpenSpec.ofChange floatValidSpec)) floatValidCard

/-- THE TIED CARD OF 'sosoptlaw23.FloatCompares'. -/
def floatComparesCard : Claim7 := { stood := { row := floatComparesRow, standIns := [], harness := (true, "6bcfbfb3312998983b6ff4e4849e3750beae617b7f0aa2af2e0f05c5fa874119"), looks := true }, kinds := [], alts := [], laidByText := true, laidKinds := [.data, .data, .data, .sentinel, .sentinel], laidTests := true, laidLooks := .later }
def FloatComparesCardSaid : Prop := Claim7.holds Tryz.pinned (.plain (OpenSpec.ofChange floatComparesSpec)) floatComparesCard

/-- THE TIED CARD OF 'sosoptlaw23.FloatMonotonic'. -/
def floatMonotonicCard : Claim7 := { stood := { row := floatMonotonicRow, standIns := [], harness := (true, "6bcfbfb3312998983b6ff4e4849e3750beae617b7f0aa2af2e0f05c5fa874119"), looks := true }, kinds := [], alts := [], laidByText := true, laidKinds := [.data, .data, .data, .sentinel, .sentinel], laidTests := true, laidLooks := .later }
def FloatMonotonicCardSaid : Prop := Claim7.holds Tryz.pinned (.plain (OpenSpec.ofChange floatMonotonicSpec)) floatMonotonicCard

/-- THE TIED CARD OF 'sosoptlaw23.FloatLimits'. -/
def floatLimitsCard : Claim7 := { stood := { row := floatLimitsRow, standIns := [], harness := (true, "6bcfbfb3312998983b6ff4e4849e3750beae617b7f0aa2af2e0f05c5fa874119"), looks := true }, kinds := [], alts := [], laidByText := true, laidKinds := [.data, .data, .data, .sentinel, .sentinel], laidTests := true, laidLooks := .later }
def FloatLimitsCardSaid : Prop := Claim7.holds Tryz.pinned (.plain (OpenSpec.ofChange floatLimitsSpec)) floatLimitsCard

/-- THE TIED CARD OF 'sosoptlaw23.FloatRoots'. -/
def floatRootsCard : Claim7 := { stood := { row := floatRootsRow, standIns := [], harness := (true, "6bcfbfb3312998983b6ff4e4849e3750beae617b7f0aa2af2e0f05c5fa874119"), looks := true }, kinds := [], alts := [], laidByText := true, laidKinds := [.data, .data, .data, .sentinel, .sentinel], laidTests := true, laidLooks := .later }
def FloatRootsCardSaid : Prop := Claim7.holds Tryz.pinned (.plain (OpenSpec.ofChange floatRootsSpec)) floatRootsCard

/-- THE TIED CARD OF 'sosoptlaw23.FloatComputes'. -/
def floatComputesCard : Claim7 := { stood := { row := floatComputesRow, standIns := [], harness := (true, "6bcfbfb3312998983b6ff4e4849e3750beae617b7f0aa2af2e0f05c5fa874119"), looks := true }, kinds := [], alts := [], laidByText := true, laidKinds := [.data, .data, .data, .sentinel, .sentinel], laidTests := true, laidLooks := .later }
def FloatComputesCardSaid : Prop := Claim7.holds Tryz.pinned (.plain (OpenSpec.ofChange floatComputesSpec)) floatComputesCard

/-- THE TIED CARD OF 'sosoptlaw23.FloatRaw'. -/
def floatRawCard : Claim7 := { stood := { row := floatRawRow, standIns := [], harness := (true, "6bcfbfb3312998983b6ff4e4849e3750beae617b7f0aa2af2e0f05c5fa874119"), looks := true }, kinds := [], alts := [], laidByText := true, laidKinds := [.data, .data, .data, .sentinel, .sentinel], laidTests := true, laidLooks := .later }
def FloatRawCardSaid : Prop := Claim7.holds Tryz.pinned (.plain (OpenSpec.ofChange floatRawSpec)) floatRawCard

/-- THE TIED CARD OF 'sosoptlaw23.FloatExact'. -/
def floatExactCard : Claim7 := { stood := { row := floatExactRow, standIns := [], harness := (true, "6bcfbfb3312998983b6ff4e4849e3750beae617b7f0aa2af2e0f05c5fa874119"), looks := true }, kinds := [], alts := [], laidByText := true, laidKinds := [.data, .data, .data, .sentinel, .sentinel], laidTests := true, laidLooks := .later }
def FloatExactCardSaid : Prop := Claim7.holds Tryz.pinned (.plain (OpenSpec.ofChange floatExactSpec)) floatExactCard

/-- THE SECOND FORM's CARD OF 'sosoptlaw23.FloatRounds'. -/
def floatRoundsUptoCard : Claim7 := { stood := { row := floatRoundsUptoRow, standIns := [], harness := (true, "6bcfbfb3312998983b6ff4e4849e3750beae617b7f0aa2af2e0f05c5fa874119"), looks := true }, kinds := [], alts := [], laidByText := true, laidKinds := [.data, .data, .data, .sentinel, .sentinel], laidTests := true, laidLooks := .later }
def FloatRoundsUptoCardSaid : Prop := Claim7.holds Tryz.pinned (.plain (OpenSpec.upto floatRoundsSpec)) floatRoundsUptoCard

/-- THE SECOND FORM's CARD OF 'sosoptlaw23.FloatNear'. -/
def floatNearUptoCard : Claim7 := { stood := { row := floatNearUptoRow, standIns := [], harness := (true, "6bcfbfb3312998983b6ff4e4849e3750beae617b7f0aa2af2e0f05c5fa874119"), looks := true }, kinds := [], alts := [], laidByText := true, laidKinds := [.data, .data, .data, .sentinel, .sentinel], laidTests := true, laidLooks := .later }
def FloatNearUptoCardSaid : Prop := Claim7.holds Tryz.pinned (.plain (OpenSpec.upto floatNearSpec)) floatNearUptoCard

/-- THE SECOND FORM's CARD OF 'sosoptlaw23.FloatShifts'. -/
def floatShiftsUptoCard : Claim7 := { stood := { row := floatShiftsUptoRow, standIns := [], harness := (true, "6bcfbfb3312998983b6ff4e4849e3750beae617b7f0aa2af2e0f05c5fa874119"), looks := true }, kinds := [], alts := [], laidByText := true, laidKinds := [.data, .data, .data, .sentinel, .sentinel], laidTests := true, laidLooks := .later }
def FloatShiftsUptoCardSaid : Prop := Claim7.holds Tryz.pinned (.plain (OpenSpec.upto floatShiftsSpec)) floatShiftsUptoCard

/-- THE SECOND FORM's CARD OF 'sosoptlaw23.FloatValid'. -/
def floatValidUptoCard : Claim7 := { stood := { row := floatValidUptoRow, standIns := [], harness := (true, "6bcfbfb3312998983b6ff4e4849e3750beae617b7f0aa2af2e0f05c5fa874119"), looks := true }, kinds := [], alts := [], laidByText := true, laidKinds := [.data, .data, .data, .sentinel, .sentinel], laidTests := true, laidLooks := .later }
def FloatValidUptoCardSaid : Prop := Claim7.holds Tryz.pinned (.plain (OpenSpec.upto floatValidSpec)) floatValidUptoCard

/-- THE SECOND FORM's CARD OF 'sosoptlaw23.FloatCompares'. -/
def floatComparesUptoCard : Claim7 := { stood := { row := floatComparesUptoRow, standIns := [], harness := (true, "6bcfbfb3312998983b6ff4e4849e3750beae617b7f0aa2af2e0f05c5fa874119"), looks := true }, kinds := [], alts := [], laidByText := true, laidKinds := [.data, .data, .data, .sentinel, .sentinel], laidTests := true, laidLooks := .later }
def FloatComparesUptoCardSaid : Prop := Claim7.holds Tryz.pinned (.plain (OpenSpec.upto floatComparesSpec)) floatComparesUptoCard

/-- THE SECOND FORM's CARD OF 'sosoptlaw23.FloatMonotonic'. -/
def floatMonotonicUptoCard : Claim7 := { stood := { row := floatMonotonicUptoRow, standIns := [], harness := (true, "6bcfbfb3312998983b6ff4e4849e3750beae617b7f0aa2af2e0f05c5fa874119"), looks := true }, kinds := [], alts := [], laidByText := true, laidKinds := [.data, .data, .data, .sentinel, .sentinel], laidTests := true, laidLooks := .later }
def FloatMonotonicUptoCardSaid : Prop := Claim7.holds Tryz.pinned (.plain (OpenSpec.upto floatMonotonicSpec)) floatMonotonicUptoCard

/-- THE SECOND FORM's CARD OF 'sosoptlaw23.FloatLimits'. -/
def floatLimitsUptoCard : Claim7 := { stood := { row := floatLimitsUptoRow, standIns := [], harness := (true, "6bcfbfb3312998983b6ff4e4849e3750beae617b7f0aa2af2e0f05c5fa874119"), looks := true }, kinds := [], alts := [], laidByText := true, laidKinds := [.data, .data, .data, .sentinel, .sentinel], laidTests := true, laidLooks := .later }
def FloatLimitsUptoCardSaid : Prop := Claim7.holds Tryz.pinned (.plain (OpenSpec.upto floatLimitsSpec)) floatLimitsUptoCard

/-- THE SECOND FORM's CARD OF 'sosoptlaw23.FloatRoots'. -/
def floatRootsUptoCard : Claim7 := { stood := { row := floatRootsUptoRow, standIns := [], harness := (true, "6bcfbfb3312998983b6ff4e4849e3750beae617b7f0aa2af2e0f05c5fa874119"), looks := true }, kinds := [], alts := [], laidByText := true, laidKinds := [.data, .data, .data, .sentinel, .sentinel], laidTests := true, laidLooks := .later }
def FloatRootsUptoCardSaid : Prop := Claim7.holds Tryz.pinned (.plain (OpenSpec.upto floatRootsSpec)) floatRootsUptoCard

/-- THE SECOND FORM's CARD OF 'sosoptlaw23.FloatComputes'. -/
def floatComputesUptoCard : Claim7 := { stood := { row := floatComputesUptoRow, standIns := [], harness := (true, "6bcfbfb3312998983b6ff4e4849e3750beae617b7f0aa2af2e0f05c5fa874119"), looks := true }, kinds := [], alts := [], laidByText := true, laidKinds := [.data, .data, .data, .sentinel, .sentinel], laidTests := true, laidLooks := .later }
def FloatComputesUptoCardSaid : Prop := Claim7.holds Tryz.pinned (.plain (OpenSpec.upto floatComputesSpec)) floatComputesUptoCard

/-- THE SECOND FORM's CARD OF 'sosoptlaw23.FloatRaw'. -/
def floatRawUptoCard : Claim7 := { stood := { row := floatRawUptoRow, standIns := [], harness := (true, "6bcfbfb3312998983b6ff4e4849e3750beae617b7f0aa2af2e0f05c5fa874119"), looks := true }, kinds := [], alts := [], laidByText := true, laidKinds := [.data, .data, .data, .sentinel, .sentinel], laidTests := true, laidLooks := .later }
def FloatRawUptoCardSaid : Prop := Claim7.holds Tryz.pinned (.plain (OpenSpec.upto floatRawSpec)) floatRawUptoCard

/-- THE SECOND FORM's CARD OF 'sosoptlaw23.FloatExact'. -/
def floatExactUptoCard : Claim7 := { stood := { row := floatExactUptoRow, standIns := [], harness := (true, "6bcfbfb3312998983b6ff4e4849e3750beae617b7f0aa2af2e0f05c5fa874119"), looks := true }, kinds := [], alts := [], laidByText := true, laidKinds := [.data, .data, .data, .sentinel, .sentinel], laidTests := true, laidLooks := .later }
def FloatExactUptoCardSaid : Prop := Claim7.holds Tryz.pinned (.plain (OpenSpec.upto floatExactSpec)) floatExactUptoCard
end Rows
end Go.Proofs.YtklpdkpcocnglaaGreatDoor
