/-
 My texts Dv3 put together.
-/
import Derived.Test.YthlipnahcbcjkaaGreatDoorR07
import Derived.Deep.CutBlock
import Derived.Deep.DeepCutAuto
set_option maxRecDepth 100000
namespace Go.Proofs.YthlipnahcbcjkaaGreatDoor
open Go.RowKit
end Go.Proofs.YthlipnahcbcjkaaGreatDoor
