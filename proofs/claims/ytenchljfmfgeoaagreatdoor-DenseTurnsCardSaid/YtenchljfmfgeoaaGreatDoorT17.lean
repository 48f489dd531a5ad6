/-
 My texts In put together.
-/
import Derived.Test.YtenchljfmfgeoaaGreatDoorT15
import Derived.Test.YtenchljfmfgeoaaGreatDoorT08
import Derived.Lib.Split
set_option maxRecDepth 100000
set_option maxHeartbeats 8000000

