/-
 My texts Dv3 put together.
-/
import Derived.Test.YtbgkofgoeoiciaaGreatDoorM07
import Derived.Deep.CutBlock
import Derived.Deep.DeepCutAuto
namespace Go.Proofs.YtbgkofgoeoiciaaGreatDoor
open Go.RowKit
end Go.Proofs.YtbgkofgoeoiciaaGreatDoor
