/-
 My texts Row put together.
-/
import Derived.Test.YtibipjlohahekaaGreatDoorM12
import Derived.OpenShut
namespace Go.Proofs.YtibipjlohahekaaGreatDoor
open Go.RowKit
end Go.Proofs.YtibipjlohahekaaGreatDoor
