/-
  DenseFactors: DenseFactors: Cholesky's factor of a small positive definite matrix of whole numbers, times its transpose, lies within 4 (n + 1) units of 2^-bits of the matrix, is lower triangular and has a positive diagonal; the law returns true and its arguments read as before.
  Conditions: the listed tables of the library hold what the program's text lays there (the card ties them).
-/
import Derived.Test.YtmpffakfhcpjoaaGreatDoorF09
import Derived.Test.YtmpffakfhcpjoaaGreatDoorF16
import Derived.Test.YtmpffakfhcpjoaaGreatDoorF24
import Derived.Test.YtmpffakfhcpjoaaGreatDoorTie
import Derived.Test.YtmpffakfhcpjoaaGreatDoorCards
set_option maxRecDepth 100000
set_option maxHeartbeats 8000000
namespace Go.Proofs.YtmpffakfhcpjoaaGreatDoor
open Go.ChangeShapes Go.WideShapes Go.ChangeAt Go.RowKit
open Go.ChangeMaps (open_string shut_string)
theorem ZnK:laidOutB Tryz.prog=true:=by kernel_rfl
theorem ZpX : Tryz.prog.funcNamed "sosopt/sosoptlaw24.DenseFactors" = some 3 := by kernel_rfl
theorem Zg6:(Rows.denseFactorsRow.inPlace == Tryz.pinned.checked.prog.inPlace 3)=true:=by kernel_rfl
theorem Zg7:(Rows.denseFactorsRow.unfollowed == Tryz.pinned.checked.prog.unfollowed 3)=true:=by kernel_rfl
theorem Zg8:(Rows.denseFactorsRow.recurses == Tryz.pinned.checked.prog.recurses 3)=true:=by kernel_rfl
theorem Zg9:(Rows.denseFactorsRow.named == Tryz.pinned.checked.prog.varsNamed 3)=true:=by kernel_rfl
theorem ZnL:joinedFacts Tryz.pinned.checked.prog 3 Tryz.f3 Rows.denseFactorsSpec Rows.denseFactorsRow=true:=by
 unfold joinedFacts
 rw [Zg6,Zg7,Zg8,Zg9]
 kernel_rfl
theorem Zp0:Tryz.f3.isInstance Tryz.pinned.checked.prog Rows.denseFactorsRow.origin Rows.denseFactorsRow.targs:=of_decide_eq_true (by kernel_rfl)
theorem Zp1:Tryz.f3.isWrapper Tryz.pinned.checked.prog Rows.denseFactorsRow.wrapper Rows.denseFactorsRow.mainSum:=by unfold Func.isWrapper; first | (rw [if_pos (by decide +kernel)]; kernel_rfl) | (rw [if_neg (by decide +kernel)]; exact ⟨rfl,rfl⟩)
theorem ZrZ:Rows.denseFactorsRow.wfByText (OpenSpec.ofChange Rows.denseFactorsSpec)=true:=by kernel_rfl
theorem Zp2:Tryz.pinned.checked.prog.mainIs=some (Rows.denseFactorsCard.stood.harness.1,Rows.denseFactorsCard.stood.harness.2.toList):=by kernel_rfl
theorem ZpY:true=Tryz.pinned.checked.prog.looks []:=by kernel_rfl
theorem Zp3:false=Rows.denseFactorsRow.goesBy Tryz.pinned.checked.prog:=by kernel_rfl
theorem ZpZ:([22,3].all fun u => !Tryz.prog.wantsStandIn u)=true:=by kernel_rfl
end Go.Proofs.YtmpffakfhcpjoaaGreatDoor
