/-
  NARROWER THAN 'FOR EVERY INPUT', by the rows' own cells (each row's printed sentence says how): ModularCombine: laid · ModularReconstruct: laid · ModularPrimes: laid · ModularInverse: laid · ModularSolution: laid · ModularMatrices: laid · ModularCombinePrimes: laid · ModularNumbers: laid · ModularReduceField: laid · ModularRoundTrip: laid.
  DERIVED. THE GIVEN ROWS OF THIS SEAT. 10 by the template 'for every input the law returns true; each argument reads behind the call as it read before'; 0 by the template 'total and deterministic' (their statements: YtndafmjcelgnbaaGreatDoorTotals.lean).
  GIVEN WITH THE SEED: the statements are not yours to turn. If you find one false, say at which input.
  Laid BY PROGRAM, IN A SANDBOX (cutbox-rows.mjs): the forced cells as the released guide's own fill.sh prints them over the translation 5d9329ddcf82b087… (all of the seat's roots in one cut). By AI agents, Wed Nov 11 2026. No macro, syntax, notation, axiom, sorry.
-/
import Derived.Test.YtndafmjcelgnbaaGreatDoorChecked
import GoSem.Claim
import GoSem.ClaimJoined
import GoSem.ClaimMapViews
import Derived.JoinedTies
import Derived.KernelRfl
namespace Go.Proofs.YtndafmjcelgnbaaGreatDoor
/- THE CELL 'sum', in the pinned program and in every row, IS THE sha256 OF THE DUMP (.gsa) THAT YtndafmjcelgnbaaGreatDoorProg.lean LOADS. Nothing in Lean hashes anything: it is a label: what it is worth is what the hold of that sum in a sandbox is worth. -/
noncomputable def Tryz.pinned : Pinned := { name := "ytndafmjcelgnbaagreatdoor", sum := "5d9329ddcf82b0876c1b4f7c7b28bfda76431acc31e825b9f5d9239ba0d14b64", checked := Tryz.checked }
namespace Rows
def none {H : Type} : Left H := { results := [], args := [] }

/- WHAT THE LISTED PACKAGE-LEVEL VARIABLES READ AS WHEN THE CALL BEGINS. Each datum BY PROGRAM (the guide's laid-datum.mjs) off the statement by which the dump's own 'gosem.cut.vars' lays the variable. In a bare row this is a premise. The card (YtndafmjcelgnbaaGreatDoorCards.lean) ties it to the program's text. -/
def laid_math_bits_deBruijn32tab {H : Type} : DataW H := .agg [.lit (.int .u8 0), .lit (.int .u8 1), .lit (.int .u8 28), .lit (.int .u8 2), .lit (.int .u8 29), .lit (.int .u8 14), .lit (.int .u8 24), .lit (.int .u8 3), .lit (.int .u8 30), .lit (.int .u8 22), .lit (.int .u8 20), .lit (.int .u8 15), .lit (.int .u8 25), .lit (.int .u8 17), .lit (.int .u8 4), .lit (.int .u8 8), .lit (.int .u8 31), .lit (.int .u8 27), .lit (.int .u8 13), .lit (.int .u8 23), .lit (.int .u8 21), .lit (.int .u8 19), .lit (.int .u8 16), .lit (.int .u8 7), .lit (.int .u8 26), .lit (.int .u8 12), .lit (.int .u8 18), .lit (.int .u8 6), .lit (.int .u8 11), .lit (.int .u8 5), .lit (.int .u8 10), .lit (.int .u8 9)]
def laid_math_bits_deBruijn64tab {H : Type} : DataW H := .agg [.lit (.int .u8 0), .lit (.int .u8 1), .lit (.int .u8 56), .lit (.int .u8 2), .lit (.int .u8 57), .lit (.int .u8 49), .lit (.int .u8 28), .lit (.int .u8 3), .lit (.int .u8 61), .lit (.int .u8 58), .lit (.int .u8 42), .lit (.int .u8 50), .lit (.int .u8 38), .lit (.int .u8 29), .lit (.int .u8 17), .lit (.int .u8 4), .lit (.int .u8 62), .lit (.int .u8 47), .lit (.int .u8 59), .lit (.int .u8 36), .lit (.int .u8 45), .lit (.int .u8 43), .lit (.int .u8 51), .lit (.int .u8 22), .lit (.int .u8 53), .lit (.int .u8 39), .lit (.int .u8 33), .lit (.int .u8 30), .lit (.int .u8 24), .lit (.int .u8 18), .lit (.int .u8 12), .lit (.int .u8 5), .lit (.int .u8 63), .lit (.int .u8 55), .lit (.int .u8 48), .lit (.int .u8 27), .lit (.int .u8 60), .lit (.int .u8 41), .lit (.int .u8 37), .lit (.int .u8 16), .lit (.int .u8 46), .lit (.int .u8 35), .lit (.int .u8 44), .lit (.int .u8 21), .lit (.int .u8 52), .lit (.int .u8 32), .lit (.int .u8 23), .lit (.int .u8 11), .lit (.int .u8 54), .lit (.int .u8 26), .lit (.int .u8 40), .lit (.int .u8 15), .lit (.int .u8 34), .lit (.int .u8 20), .lit (.int .u8 31), .lit (.int .u8 10), .lit (.int .u8 25), .lit (.int .u8 14), .lit (.int .u8 19), .lit (.int .u8 9), .lit (.int .u8 13), .lit (.int .u8 8), .lit (.int .u8 7), .lit (.int .u8 6)]
def laid_internal_strconv_uint64pow10 {H : Type} : DataW H := .agg [.lit (.int .u64 1), .lit (.int .u64 10), .lit (.int .u64 100), .lit (.int .u64 1000), .lit (.int .u64 10000), .lit (.int .u64 100000), .lit (.int .u64 1000000), .lit (.int .u64 10000000), .lit (.int .u64 100000000), .lit (.int .u64 1000000000), .lit (.int .u64 10000000000), .lit (.int .u64 100000000000), .lit (.int .u64 1000000000000), .lit (.int .u64 10000000000000), .lit (.int .u64 100000000000000), .lit (.int .u64 1000000000000000), .lit (.int .u64 10000000000000000), .lit (.int .u64 100000000000000000), .lit (.int .u64 1000000000000000000), .lit (.int .u64 10000000000000000000)]

/-- 'sosoptlaw02.ModularCombine': WHATEVER THE INPUT: true; the input reads as it did. -/
def modularCombineSpec : ChangeSpec := { name := "modularCombine", fn := fun _ => fun
  | [d1, d2] => { results := [.lit (.bool true)], args := [d1, d2] }
  | _ => none }
def modularCombineRow : OpenClaim := { program := "ytndafmjcelgnbaagreatdoor", sum := "5d9329ddcf82b0876c1b4f7c7b28bfda76431acc31e825b9f5d9239ba0d14b64", func := "sosopt/sosoptlaw02.ModularCombine", spec := "modularCombine", inPlace := ["math/bits.Add64", "math/bits.Sub64"], recurses := true, named := ["math/bits.divideError", "math/bits.overflowError", "internal/strconv.uint64pow10", "math/bits.deBruijn32tab", "math/bits.deBruijn64tab"], apart := false, laid := [("math/bits.deBruijn32tab", laid_math_bits_deBruijn32tab), ("math/bits.deBruijn64tab", laid_math_bits_deBruijn64tab), ("internal/strconv.uint64pow10", laid_internal_strconv_uint64pow10)] }
def ModularCombineSaid : Prop := modularCombineRow.holds Tryz.pinned (OpenSpec.ofChange modularCombineSpec)

/-- ITS FALSE NEIGHBOUR: 'it returns false'. Refute it at one input. -/
def modularCombineWrong : ChangeSpec := { name := "modularCombine", fn := fun _ => fun
  | [d1, d2] => { results := [.lit (.bool false)], args := [d1, d2] }
  | _ => none }
def ModularCombineWrongFalsely : Prop := modularCombineRow.holds Tryz.pinned (OpenSpec.ofChange modularCombineWrong)

/-- 'sosoptlaw02.ModularReconstruct': WHATEVER THE INPUT: true; the input reads as it did. -/
def modularReconstructSpec : ChangeSpec := { name := "modularReconstruct", fn := fun _ => fun
  | [d1, d2] => { results := [.lit (.bool true)], args := [d1, d2] }
  | _ => none }
def modularReconstructRow : OpenClaim := { program := "ytndafmjcelgnbaagreatdoor", sum := "5d9329ddcf82b0876c1b4f7c7b28bfda76431acc31e825b9f5d9239ba0d14b64", func := "sosopt/sosoptlaw02.ModularReconstruct", spec := "modularReconstruct", inPlace := ["math/bits.Add64", "math/bits.Sub64"], recurses := true, named := ["math/bits.divideError", "math/bits.overflowError", "internal/strconv.uint64pow10", "math/bits.deBruijn32tab", "math/bits.deBruijn64tab"], apart := false, laid := [("math/bits.deBruijn32tab", laid_math_bits_deBruijn32tab), ("math/bits.deBruijn64tab", laid_math_bits_deBruijn64tab), ("internal/strconv.uint64pow10", laid_internal_strconv_uint64pow10)] }
def ModularReconstructSaid : Prop := modularReconstructRow.holds Tryz.pinned (OpenSpec.ofChange modularReconstructSpec)

/-- ITS FALSE NEIGHBOUR: 'it returns false'. Refute it at one input. -/
def modularReconstructWrong : ChangeSpec := { name := "modularReconstruct", fn := fun _ => fun
  | [d1, d2] => { results := [.lit (.bool false)], args := [d1, d2] }
  | _ => none }
def ModularReconstructWrongFalsely : Prop := modularReconstructRow.holds Tryz.pinned (OpenSpec.ofChange modularReconstructWrong)

/-- 'sosoptlaw02.ModularPrimes': WHATEVER THE INPUT: true; the input reads as it did. -/
def modularPrimesSpec : ChangeSpec := { name := "modularPrimes", fn := fun _ => fun
  | [d] => { results := [.lit (.bool true)], args := [d] }
  | _ => none }
def modularPrimesRow : OpenClaim := { program := "ytndafmjcelgnbaagreatdoor", sum := "5d9329ddcf82b0876c1b4f7c7b28bfda76431acc31e825b9f5d9239ba0d14b64", func := "sosopt/sosoptlaw02.ModularPrimes", spec := "modularPrimes", inPlace := ["math/bits.Add64", "math/bits.Sub64"], recurses := true, named := ["math/bits.divideError", "math/bits.overflowError", "internal/strconv.uint64pow10", "math/bits.deBruijn32tab", "math/bits.deBruijn64tab"], apart := false, laid := [("math/bits.deBruijn32tab", laid_math_bits_deBruijn32tab), ("math/bits.deBruijn64tab", laid_math_bits_deBruijn64tab), ("internal/strconv.uint64pow10", laid_internal_strconv_uint64pow10)] }
def ModularPrimesSaid : Prop := modularPrimesRow.holds Tryz.pinned (OpenSpec.ofChange modularPrimesSpec)

/-- ITS FALSE NEIGHBOUR: 'it returns false'. Refute it at one input. -/
def modularPrimesWrong : ChangeSpec := { name := "modularPrimes", fn := fun _ => fun
  | [d] => { results := [.lit (.bool false)], args := [d] }
  | _ => none }
def ModularPrimesWrongFalsely : Prop := modularPrimesRow.holds Tryz.pinned (OpenSpec.ofChange modularPrimesWrong)

/-- 'sosoptlaw02.ModularInverse': WHATEVER THE INPUT: true; the input reads as it did. -/
def modularInverseSpec : ChangeSpec := { name := "modularInverse", fn := fun _ => fun
  | [d1, d2, d3] => { results := [.lit (.bool true)], args := [d1, d2, d3] }
  | _ => none }
def modularInverseRow : OpenClaim := { program := "ytndafmjcelgnbaagreatdoor", sum := "5d9329ddcf82b0876c1b4f7c7b28bfda76431acc31e825b9f5d9239ba0d14b64", func := "sosopt/sosoptlaw02.ModularInverse", spec := "modularInverse", inPlace := ["math/bits.Add64", "math/bits.Sub64"], recurses := true, named := ["math/bits.divideError", "math/bits.overflowError", "internal/strconv.uint64pow10", "math/bits.deBruijn32tab", "math/bits.deBruijn64tab"], apart := false, laid := [("math/bits.deBruijn32tab", laid_math_bits_deBruijn32tab), ("math/bits.deBruijn64tab", laid_math_bits_deBruijn64tab), ("internal/strconv.uint64pow10", laid_internal_strconv_uint64pow10)] }
def ModularInverseSaid : Prop := modularInverseRow.holds Tryz.pinned (OpenSpec.ofChange modularInverseSpec)

/-- ITS FALSE NEIGHBOUR: 'it returns false'. Refute it at one input. -/
def modularInverseWrong : ChangeSpec := { name := "modularInverse", fn := fun _ => fun
  | [d1, d2, d3] => { results := [.lit (.bool false)], args := [d1, d2, d3] }
  | _ => none }
def ModularInverseWrongFalsely : Prop := modularInverseRow.holds Tryz.pinned (OpenSpec.ofChange modularInverseWrong)

/-- 'sosoptlaw02.ModularSolution': WHATEVER THE INPUT: true; the input reads as it did. -/
def modularSolutionSpec : ChangeSpec := { name := "modularSolution", fn := fun _ => fun
  | [d1, d2, d3] => { results := [.lit (.bool true)], args := [d1, d2, d3] }
  | _ => none }
def modularSolutionRow : OpenClaim := { program := "ytndafmjcelgnbaagreatdoor", sum := "5d9329ddcf82b0876c1b4f7c7b28bfda76431acc31e825b9f5d9239ba0d14b64", func := "sosopt/sosoptlaw02.ModularSolution", spec := "modularSolution", inPlace := ["math/bits.Add64", "math/bits.Sub64"], recurses := true, named := ["math/bits.divideError", "math/bits.overflowError", "internal/strconv.uint64pow10", "math/bits.deBruijn32tab", "math/bits.deBruijn64tab"], apart := false, laid := [("math/bits.deBruijn32tab", laid_math_bits_deBruijn32tab), ("math/bits.deBruijn64tab", laid_math_bits_deBruijn64tab), ("internal/strconv.uint64pow10", laid_internal_strconv_uint64pow10)] }
def ModularSolutionSaid : Prop := modularSolutionRow.holds Tryz.pinned (OpenSpec.ofChange modularSolutionSpec)

/-- ITS FALSE NEIGHBOUR: 'it returns false'. Refute it at one input. -/
def modularSolutionWrong : ChangeSpec := { name := "modularSolution", fn := fun _ => fun
  | [d1, d2, d3] => { results := [.lit (.bool false)], args := [d1, d2, d3] }
  | _ => none }
def ModularSolutionWrongFalsely : Prop := modularSolutionRow.holds Tryz.pinned (OpenSpec.ofChange modularSolutionWrong)

/-- 'sosoptlaw02.ModularMatrices': WHATEVER THE INPUT: true; the input reads as it did. -/
def modularMatricesSpec : ChangeSpec := { name := "modularMatrices", fn := fun _ => fun
  | [d1, d2, d3] => { results := [.lit (.bool true)], args := [d1, d2, d3] }
  | _ => none }
def modularMatricesRow : OpenClaim := { program := "ytndafmjcelgnbaagreatdoor", sum := "5d9329ddcf82b0876c1b4f7c7b28bfda76431acc31e825b9f5d9239ba0d14b64", func := "sosopt/sosoptlaw02.ModularMatrices", spec := "modularMatrices", inPlace := ["math/bits.Add64", "math/bits.Sub64"], recurses := true, named := ["math/bits.divideError", "math/bits.overflowError", "internal/strconv.uint64pow10", "math/bits.deBruijn32tab", "math/bits.deBruijn64tab"], apart := false, laid := [("math/bits.deBruijn32tab", laid_math_bits_deBruijn32tab), ("math/bits.deBruijn64tab", laid_math_bits_deBruijn64tab), ("internal/strconv.uint64pow10", laid_internal_strconv_uint64pow10)] }
def ModularMatricesSaid : Prop := modularMatricesRow.holds Tryz.pinned (OpenSpec.ofChange modularMatricesSpec)

/-- ITS FALSE NEIGHBOUR: 'it returns false'. Refute it at one input. -/
def modularMatricesWrong : ChangeSpec := { name := "modularMatrices", fn := fun _ => fun
  | [d1, d2, d3] => { results := [.lit (.bool false)], args := [d1, d2, d3] }
  | _ => none }
def ModularMatricesWrongFalsely : Prop := modularMatricesRow.holds Tryz.pinned (OpenSpec.ofChange modularMatricesWrong)

/-- 'sosoptlaw02.ModularCombinePrimes': WHATEVER THE INPUT: true; the input reads as it did. -/
def modularCombinePrimesSpec : ChangeSpec := { name := "modularCombinePrimes", fn := fun _ => fun
  | [d1, d2] => { results := [.lit (.bool true)], args := [d1, d2] }
  | _ => none }
def modularCombinePrimesRow : OpenClaim := { program := "ytndafmjcelgnbaagreatdoor", sum := "5d9329ddcf82b0876c1b4f7c7b28bfda76431acc31e825b9f5d9239ba0d14b64", func := "sosopt/sosoptlaw02.ModularCombinePrimes", spec := "modularCombinePrimes", inPlace := ["math/bits.Add64", "math/bits.Sub64"], recurses := true, named := ["math/bits.divideError", "math/bits.overflowError", "internal/strconv.uint64pow10", "math/bits.deBruijn32tab", "math/bits.deBruijn64tab"], apart := false, laid := [("math/bits.deBruijn32tab", laid_math_bits_deBruijn32tab), ("math/bits.deBruijn64tab", laid_math_bits_deBruijn64tab), ("internal/strconv.uint64pow10", laid_internal_strconv_uint64pow10)] }
def ModularCombinePrimesSaid : Prop := modularCombinePrimesRow.holds Tryz.pinned (OpenSpec.ofChange modularCombinePrimesSpec)

/-- ITS FALSE NEIGHBOUR: 'it returns false'. Refute it at one input. -/
def modularCombinePrimesWrong : ChangeSpec := { name := "modularCombinePrimes", fn := fun _ => fun
  | [d1, d2] => { results := [.lit (.bool false)], args := [d1, d2] }
  | _ => none }
def ModularCombinePrimesWrongFalsely : Prop := modularCombinePrimesRow.holds Tryz.pinned (OpenSpec.ofChange modularCombinePrimesWrong)

/-- 'sosoptlaw02.ModularNumbers': WHATEVER THE INPUT: true; the input reads as it did. -/
def modularNumbersSpec : ChangeSpec := { name := "modularNumbers", fn := fun _ => fun
  | [d1, d2, d3] => { results := [.lit (.bool true)], args := [d1, d2, d3] }
  | _ => none }
def modularNumbersRow : OpenClaim := { program := "ytndafmjcelgnbaagreatdoor", sum := "5d9329ddcf82b0876c1b4f7c7b28bfda76431acc31e825b9f5d9239ba0d14b64", func := "sosopt/sosoptlaw02.ModularNumbers", spec := "modularNumbers", inPlace := ["math/bits.Add64", "math/bits.Sub64"], recurses := true, named := ["math/bits.divideError", "math/bits.overflowError", "math/bits.deBruijn64tab", "internal/strconv.uint64pow10", "math/bits.deBruijn32tab"], apart := false, laid := [("math/bits.deBruijn32tab", laid_math_bits_deBruijn32tab), ("math/bits.deBruijn64tab", laid_math_bits_deBruijn64tab), ("internal/strconv.uint64pow10", laid_internal_strconv_uint64pow10)] }
def ModularNumbersSaid : Prop := modularNumbersRow.holds Tryz.pinned (OpenSpec.ofChange modularNumbersSpec)

/-- ITS FALSE NEIGHBOUR: 'it returns false'. Refute it at one input. -/
def modularNumbersWrong : ChangeSpec := { name := "modularNumbers", fn := fun _ => fun
  | [d1, d2, d3] => { results := [.lit (.bool false)], args := [d1, d2, d3] }
  | _ => none }
def ModularNumbersWrongFalsely : Prop := modularNumbersRow.holds Tryz.pinned (OpenSpec.ofChange modularNumbersWrong)

/-- 'sosoptlaw02.ModularReduceField': WHATEVER THE INPUT: true; the input reads as it did. -/
def modularReduceFieldSpec : ChangeSpec := { name := "modularReduceField", fn := fun _ => fun
  | [d1, d2, d3] => { results := [.lit (.bool true)], args := [d1, d2, d3] }
  | _ => none }
def modularReduceFieldRow : OpenClaim := { program := "ytndafmjcelgnbaagreatdoor", sum := "5d9329ddcf82b0876c1b4f7c7b28bfda76431acc31e825b9f5d9239ba0d14b64", func := "sosopt/sosoptlaw02.ModularReduceField", spec := "modularReduceField", inPlace := ["math/bits.Add64", "math/bits.Sub64"], recurses := true, named := ["math/bits.divideError", "math/bits.overflowError", "internal/strconv.uint64pow10", "math/bits.deBruijn32tab", "math/bits.deBruijn64tab"], apart := false, laid := [("math/bits.deBruijn32tab", laid_math_bits_deBruijn32tab), ("math/bits.deBruijn64tab", laid_math_bits_deBruijn64tab), ("internal/strconv.uint64pow10", laid_internal_strconv_uint64pow10)] }
def ModularReduceFieldSaid : Prop := modularReduceFieldRow.holds Tryz.pinned (OpenSpec.ofChange modularReduceFieldSpec)

/-- ITS FALSE NEIGHBOUR: 'it returns false'. Refute it at one input. -/
def modularReduceFieldWrong : ChangeSpec := { name := "modularReduceField", fn := fun _ => fun
  | [d1, d2, d3] => { results := [.lit (.bool false)], args := [d1, d2, d3] }
  | _ => none }
def ModularReduceFieldWrongFalsely : Prop := modularReduceFieldRow.holds Tryz.pinned (OpenSpec.ofChange modularReduceFieldWrong)

/-- 'sosoptlaw02.ModularRoundTrip': WHATEVER THE INPUT: true; the input reads as it did. -/
def modularRoundTripSpec : ChangeSpec := { name := "modularRoundTrip", fn := fun _ => fun
  | [d1, d2] => { results := [.lit (.bool true)], args := [d1, d2] }
  | _ => none }
def modularRoundTripRow : OpenClaim := { program := "ytndafmjcelgnbaagreatdoor", sum := "5d9329ddcf82b0876c1b4f7c7b28bfda76431acc31e825b9f5d9239ba0d14b64", func := "sosopt/sosoptlaw02.ModularRoundTrip", spec := "modularRoundTrip", inPlace := ["math/bits.Add64", "math/bits.Sub64", "internal/bytealg.IndexByteString", "internal/bytealg.IndexString"], recurses := true, named := ["math/bits.divideError", "math/bits.overflowError", "math/bits.deBruijn64tab", "internal/strconv.uint64pow10", "math/bits.deBruijn32tab", "internal/bytealg.MaxLen"], apart := false, laid := [("math/bits.deBruijn32tab", laid_math_bits_deBruijn32tab), ("math/bits.deBruijn64tab", laid_math_bits_deBruijn64tab), ("internal/strconv.uint64pow10", laid_internal_strconv_uint64pow10)] }
def ModularRoundTripSaid : Prop := modularRoundTripRow.holds Tryz.pinned (OpenSpec.ofChange modularRoundTripSpec)

/-- ITS FALSE NEIGHBOUR: 'it returns false'. Refute it at one input. -/
def modularRoundTripWrong : ChangeSpec := { name := "modularRoundTrip", fn := fun _ => fun
  | [d1, d2] => { results := [.lit (.bool false)], args := [d1, d2] }
  | _ => none }
def ModularRoundTripWrongFalsely : Prop := modularRoundTripRow.holds Tryz.pinned (OpenSpec.ofChange modularRoundTripWrong)

/- THE SECOND FORM. 'bulk': how many values and letters a reading holds, each counted each time it is reached (what is shared counts as often as it is met; a slice's spare places count too). A statement '..UptoSaid' is the law's where the arguments, and the package variables that the reading takes, are together of bulk at most 1048576: NARROWER than '..Said'. Prove '..Said' where nothing that the law and all that it calls make is longer than what came in: it says more and counts as full. Else prove '..UptoSaid'. A law counts once. -/
mutual
def uptoBulk {H : Type} : DataW H → Nat
  | .lit (.string bytes) => bytes.length + 1
  | .lit _ => 1
  | .nil => 1
  | .ptr d => uptoBulk d + 1
  | .slice elems spare => uptoBulkAll elems + uptoBulkAll spare + 1
  | .agg parts => uptoBulkAll parts + 1
  | .iface _ d => uptoBulk d + 1
  | .map entries => uptoBulkEntries entries + 1
  | .held _ => 1
def uptoBulkAll {H : Type} : List (DataW H) → Nat
  | [] => 0
  | d :: r => uptoBulk d + uptoBulkAll r
def uptoBulkEntries {H : Type} : List (Lit × DataW H) → Nat
  | [] => 0
  | x :: r => uptoBulkEntry x + uptoBulkEntries r
def uptoBulkEntry {H : Type} : Lit × DataW H → Nat
  | (.string bytes, d) => bytes.length + uptoBulk d + 1
  | (_, d) => uptoBulk d + 1
 end
def uptoSmall : (H : Type) → List (DataW H) → Bool := fun _ ds => decide (uptoBulkAll ds ≤ 1048576)
def OpenSpec.upto (s : _root_.Go.ChangeSpec) : _root_.Go.OpenSpec := { _root_.Go.OpenSpec.ofChange s with cond := some uptoSmall }

/-- 'sosoptlaw02.ModularCombine', WHERE WHAT IT READS IS OF BULK AT MOST 1048576: true; the input reads as it did. -/
def modularCombineUptoRow : OpenClaim := { program := "ytndafmjcelgnbaagreatdoor", sum := "5d9329ddcf82b0876c1b4f7c7b28bfda76431acc31e825b9f5d9239ba0d14b64", func := "sosopt/sosoptlaw02.ModularCombine", spec := "modularCombine", inPlace := ["math/bits.Add64", "math/bits.Sub64"], recurses := true, named := ["math/bits.divideError", "math/bits.overflowError", "internal/strconv.uint64pow10", "math/bits.deBruijn32tab", "math/bits.deBruijn64tab"], apart := false, laid := [("math/bits.deBruijn32tab", laid_math_bits_deBruijn32tab), ("math/bits.deBruijn64tab", laid_math_bits_deBruijn64tab), ("internal/strconv.uint64pow10", laid_internal_strconv_uint64pow10)], narrowed := true }
def ModularCombineUptoSaid : Prop := modularCombineUptoRow.holds Tryz.pinned (OpenSpec.upto modularCombineSpec)

/-- 'sosoptlaw02.ModularReconstruct', WHERE WHAT IT READS IS OF BULK AT MOST 1048576: true; the input reads as it did. -/
def modularReconstructUptoRow : OpenClaim := { program := "ytndafmjcelgnbaagreatdoor", sum := "5d9329ddcf82b0876c1b4f7c7b28bfda76431acc31e825b9f5d9239ba0d14b64", func := "sosopt/sosoptlaw02.ModularReconstruct", spec := "modularReconstruct", inPlace := ["math/bits.Add64", "math/bits.Sub64"], recurses := true, named := ["math/bits.divideError", "math/bits.overflowError", "internal/strconv.uint64pow10", "math/bits.deBruijn32tab", "math/bits.deBruijn64tab"], apart := false, laid := [("math/bits.deBruijn32tab", laid_math_bits_deBruijn32tab), ("math/bits.deBruijn64tab", laid_math_bits_deBruijn64tab), ("internal/strconv.uint64pow10", laid_internal_strconv_uint64pow10)], narrowed := true }
def ModularReconstructUptoSaid : Prop := modularReconstructUptoRow.holds Tryz.pinned (OpenSpec.upto modularReconstructSpec)

/-- 'sosoptlaw02.ModularPrimes', WHERE WHAT IT READS IS OF BULK AT MOST 1048576: true; the input reads as it did. -/
def modularPrimesUptoRow : OpenClaim := { program := "ytndafmjcelgnbaagreatdoor", sum := "5d9329ddcf82b0876c1b4f7c7b28bfda76431acc31e825b9f5d9239ba0d14b64", func := "sosopt/sosoptlaw02.ModularPrimes", spec := "modularPrimes", inPlace := ["math/bits.Add64", "math/bits.Sub64"], recurses := true, named := ["math/bits.divideError", "math/bits.overflowError", "internal/strconv.uint64pow10", "math/bits.deBruijn32tab", "math/bits.deBruijn64tab"], apart := false, laid := [("math/bits.deBruijn32tab", laid_math_bits_deBruijn32tab), ("math/bits.deBruijn64tab", laid_math_bits_deBruijn64tab), ("internal/strconv.uint64pow10", laid_internal_strconv_uint64pow10)], narrowed := true }
def ModularPrimesUptoSaid : Prop := modularPrimesUptoRow.holds Tryz.pinned (OpenSpec.upto modularPrimesSpec)

/-- 'sosoptlaw02.ModularInverse', WHERE WHAT IT READS IS OF BULK AT MOST 1048576: true; the input reads as it did. -/
def modularInverseUptoRow : OpenClaim := { program := "ytndafmjcelgnbaagreatdoor", sum := "5d9329ddcf82b0876c1b4f7c7b28bfda76431acc31e825b9f5d9239ba0d14b64", func := "sosopt/sosoptlaw02.ModularInverse", spec := "modularInverse", inPlace := ["math/bits.Add64", "math/bits.Sub64"], recurses := true, named := ["math/bits.divideError", "math/bits.overflowError", "internal/strconv.uint64pow10", "math/bits.deBruijn32tab", "math/bits.deBruijn64tab"], apart := false, laid := [("math/bits.deBruijn32tab", laid_math_bits_deBruijn32tab), ("math/bits.deBruijn64tab", laid_math_bits_deBruijn64tab), ("internal/strconv.uint64pow10", laid_internal_strconv_uint64pow10)], narrowed := true }
def ModularInverseUptoSaid : Prop := modularInverseUptoRow.holds Tryz.pinned (OpenSpec.upto modularInverseSpec)

/-- 'sosoptlaw02.ModularSolution', WHERE WHAT IT READS IS OF BULK AT MOST 1048576: true; the input reads as it did. -/
def modularSolutionUptoRow : OpenClaim := { program := "ytndafmjcelgnbaagreatdoor", sum := "5d9329ddcf82b0876c1b4f7c7b28bfda76431acc31e825b9f5d9239ba0d14b64", func := "sosopt/sosoptlaw02.ModularSolution", spec := "modularSolution", inPlace := ["math/bits.Add64", "math/bits.Sub64"], recurses := true, named := ["math/bits.divideError", "math/bits.overflowError", "internal/strconv.uint64pow10", "math/bits.deBruijn32tab", "math/bits.deBruijn64tab"], apart := false, laid := [("math/bits.deBruijn32tab", laid_math_bits_deBruijn32tab), ("math/bits.deBruijn64tab", laid_math_bits_deBruijn64tab), ("internal/strconv.uint64pow10", laid_internal_strconv_uint64pow10)], narrowed := true }
def ModularSolutionUptoSaid : Prop := modularSolutionUptoRow.holds Tryz.pinned (OpenSpec.upto modularSolutionSpec)

/-- 'sosoptlaw02.ModularMatrices', WHERE WHAT IT READS IS OF BULK AT MOST 1048576: true; the input reads as it did. -/
def modularMatricesUptoRow : OpenClaim := { program := "ytndafmjcelgnbaagreatdoor", sum := "5d9329ddcf82b0876c1b4f7c7b28bfda76431acc31e825b9f5d9239ba0d14b64", func := "sosopt/sosoptlaw02.ModularMatrices", spec := "modularMatrices", inPlace := ["math/bits.Add64", "math/bits.Sub64"], recurses := true, named := ["math/bits.divideError", "math/bits.overflowError", "internal/strconv.uint64pow10", "math/bits.deBruijn32tab", "math/bits.deBruijn64tab"], apart := false, laid := [("math/bits.deBruijn32tab", laid_math_bits_deBruijn32tab), ("math/bits.deBruijn64tab", laid_math_bits_deBruijn64tab), ("internal/strconv.uint64pow10", laid_internal_strconv_uint64pow10)], narrowed := true }
def ModularMatricesUptoSaid : Prop := modularMatricesUptoRow.holds Tryz.pinned (OpenSpec.upto modularMatricesSpec)

/-- 'sosoptlaw02.ModularCombinePrimes', WHERE WHAT IT READS IS OF BULK AT MOST 1048576: true; the input reads as it did. -/
def modularCombinePrimesUptoRow : OpenClaim := { program := "ytndafmjcelgnbaagreatdoor", sum := "5d9329ddcf82b0876c1b4f7c7b28bfda76431acc31e825b9f5d9239ba0d14b64", func := "sosopt/sosoptlaw02.ModularCombinePrimes", spec := "modularCombinePrimes", inPlace := ["math/bits.Add64", "math/bits.Sub64"], recurses := true, named := ["math/bits.divideError", "math/bits.overflowError", "internal/strconv.uint64pow10", "math/bits.deBruijn32tab", "math/bits.deBruijn64tab"], apart := false, laid := [("math/bits.deBruijn32tab", laid_math_bits_deBruijn32tab), ("math/bits.deBruijn64tab", laid_math_bits_deBruijn64tab), ("internal/strconv.uint64pow10", laid_internal_strconv_uint64pow10)], narrowed := true }
def ModularCombinePrimesUptoSaid : Prop := modularCombinePrimesUptoRow.holds Tryz.pinned (OpenSpec.upto modularCombinePrimesSpec)

/-- 'sosoptlaw02.ModularNumbers', WHERE WHAT IT READS IS OF BULK AT MOST 1048576: true; the input reads as it did. -/
def modularNumbersUptoRow : OpenClaim := { program := "ytndafmjcelgnbaagreatdoor", sum := "5d9329ddcf82b0876c1b4f7c7b28bfda76431acc31e825b9f5d9239ba0d14b64", func := "sosopt/sosoptlaw02.ModularNumbers", spec := "modularNumbers", inPlace := ["math/bits.Add64", "math/bits.Sub64"], recurses := true, named := ["math/bits.divideError", "math/bits.overflowError", "math/bits.deBruijn64tab", "internal/strconv.uint64pow10", "math/bits.deBruijn32tab"], apart := false, laid := [("math/bits.deBruijn32tab", laid_math_bits_deBruijn32tab), ("math/bits.deBruijn64tab", laid_math_bits_deBruijn64tab), ("internal/strconv.uint64pow10", laid_internal_strconv_uint64pow10)], narrowed := true }
def ModularNumbersUptoSaid : Prop := modularNumbersUptoRow.holds Tryz.pinned (OpenSpec.upto modularNumbersSpec)

/-- 'sosoptlaw02.ModularReduceField', WHERE WHAT IT READS IS OF BULK AT MOST 1048576: true; the input reads as it did. -/
def modularReduceFieldUptoRow : OpenClaim := { program := "ytndafmjcelgnbaagreatdoor", sum := "5d9329ddcf82b0876c1b4f7c7b28bfda76431acc31e825b9f5d9239ba0d14b64", func := "sosopt/sosoptlaw02.ModularReduceField", spec := "modularReduceField", inPlace := ["math/bits.Add64", "math/bits.Sub64"], recurses := true, named := ["math/bits.divideError", "math/bits.overflowError", "internal/strconv.uint64pow10", "math/bits.deBruijn32tab", "math/bits.deBruijn64tab"], apart := false, laid := [("math/bits.deBruijn32tab", laid_math_bits_deBruijn32tab), ("math/bits.deBruijn64tab", laid_math_bits_deBruijn64tab), ("internal/strconv.uint64pow10", laid_internal_strconv_uint64pow10)], narrowed := true }
def ModularReduceFieldUptoSaid : Prop := modularReduceFieldUptoRow.holds Tryz.pinned (OpenSpec.upto modularReduceFieldSpec)

/-- 'sosoptlaw02.ModularRoundTrip', WHERE WHAT IT READS IS OF BULK AT MOST 1048576: true; the input reads as it did. -/
def modularRoundTripUptoRow : OpenClaim := { program := "ytndafmjcelgnbaagreatdoor", sum := "5d9329ddcf82b0876c1b4f7c7b28bfda76431acc31e825b9f5d9239ba0d14b64", func := "sosopt/sosoptlaw02.ModularRoundTrip", spec := "modularRoundTrip", inPlace := ["math/bits.Add64", "math/bits.Sub64", "internal/bytealg.IndexByteString", "internal/bytealg.IndexString"], recurses := true, named := ["math/bits.divideError", "math/bits.overflowError", "math/bits.deBruijn64tab", "internal/strconv.uint64pow10", "math/bits.deBruijn32tab", "internal/bytealg.MaxLen"], apart := false, laid := [("math/bits.deBruijn32tab", laid_math_bits_deBruijn32tab), ("math/bits.deBruijn64tab", laid_math_bits_deBruijn64tab), ("internal/strconv.uint64pow10", laid_internal_strconv_uint64pow10)], narrowed := true }
def ModularRoundTripUptoSaid : Prop := modularRoundTripUptoRow.holds Tryz.pinned (OpenSpec.upto modularRoundTripSpec)

end Rows
end Go.Proofs.YtndafmjcelgnbaaGreatDoor
