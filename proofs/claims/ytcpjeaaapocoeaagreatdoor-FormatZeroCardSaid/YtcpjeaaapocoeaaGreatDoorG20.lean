/-
 My texts Dv3 put together.
-/
import Derived.Test.YtcpjeaaapocoeaaGreatDoorG07
import Derived.Deep.CutBlock
import Derived.Deep.DeepCutAuto
set_option maxRecDepth 100000
namespace Go.Proofs.YtcpjeaaapocoeaaGreatDoor
open Go.RowKit
end Go.Proofs.YtcpjeaaapocoeaaGreatDoor
