/-
 My texts Dv3 put together.
-/
import Derived.Test.YtibipjlohahekaaGreatDoorM07
import Derived.Deep.CutBlock
import Derived.Deep.DeepCutAuto
namespace Go.Proofs.YtibipjlohahekaaGreatDoor
open Go.RowKit
end Go.Proofs.YtibipjlohahekaaGreatDoor
