/-
 My texts Rn4 put together.
-/
import Derived.Test.YtklpdkpcocnglaaGreatDoorX22
set_option maxRecDepth 100000
set_option maxHeartbeats 8000000
namespace Go.Proofs.YtklpdkpcocnglaaGreatDoor
open Go.RowKit
theorem Zr2 {r:FR}(h:r.err=0):frT r=Lib.itoa (sg r.s r.m):=uL h
theorem Zr3 {r:FR}(h:r.err=0):frE r=r.e:=uL h
end Go.Proofs.YtklpdkpcocnglaaGreatDoor
