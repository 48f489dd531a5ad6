/-
 My texts Row put together.
-/
import Derived.Test.YthlipnahcbcjkaaGreatDoorM12
import Derived.OpenShut
set_option maxRecDepth 100000
namespace Go.Proofs.YthlipnahcbcjkaaGreatDoor
open Go.RowKit
end Go.Proofs.YthlipnahcbcjkaaGreatDoor
