/-
 My texts Ref1, Keep put together.
-/
import Derived.Test.YthlipnahcbcjkaaGreatDoorM11
import Derived.Test.YthlipnahcbcjkaaGreatDoorM02
set_option maxRecDepth 100000
namespace Go.Proofs.YthlipnahcbcjkaaGreatDoor
open Go.RowKit
end Go.Proofs.YthlipnahcbcjkaaGreatDoor

namespace Go.Proofs.YthlipnahcbcjkaaGreatDoor
open Go.RowKit
end Go.Proofs.YthlipnahcbcjkaaGreatDoor
