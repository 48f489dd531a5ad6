/-
 My texts.
-/
import Derived.Test.YtmpffakfhcpjoaaGreatDoorF18
import Derived.Lib.Split
set_option maxRecDepth 100000
set_option maxHeartbeats 8000000

