/-
 My texts In put together.
-/
import Derived.Test.YtenchljfmfgeoaaGreatDoorL15
import Derived.Test.YtenchljfmfgeoaaGreatDoorL08
import Derived.Lib.Split
set_option maxRecDepth 100000
namespace Go.Proofs.YtenchljfmfgeoaaGreatDoor
open Go.RowKit
end Go.Proofs.YtenchljfmfgeoaaGreatDoor
