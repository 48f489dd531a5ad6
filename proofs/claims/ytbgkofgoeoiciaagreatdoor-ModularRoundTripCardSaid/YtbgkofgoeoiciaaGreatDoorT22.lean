/-
 My texts Dv3 put together.
-/
import Derived.Test.YtbgkofgoeoiciaaGreatDoorT07
import Derived.Deep.CutBlock
import Derived.Deep.DeepCutAuto
namespace Go.Proofs.YtbgkofgoeoiciaaGreatDoor
open Go.RowKit
end Go.Proofs.YtbgkofgoeoiciaaGreatDoor
