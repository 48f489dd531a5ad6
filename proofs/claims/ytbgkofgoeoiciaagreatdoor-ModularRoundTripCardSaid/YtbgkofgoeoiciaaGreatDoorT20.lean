/-
 My texts Row put together.
-/
import Derived.Test.YtbgkofgoeoiciaaGreatDoorT17
import Derived.OpenShut
namespace Go.Proofs.YtbgkofgoeoiciaaGreatDoor
open Go.RowKit
end Go.Proofs.YtbgkofgoeoiciaaGreatDoor
