/-
 My texts Pt put together.
-/
import Derived.Test.YthlipnahcbcjkaaGreatDoorM17
import Derived.Test.YthlipnahcbcjkaaGreatDoorM19
import Derived.Lib.Bytealg
set_option maxRecDepth 100000
namespace Go.Proofs.YthlipnahcbcjkaaGreatDoor
open Go.RowKit
theorem ZjO (x:Int):Zaf ((x:Int):Rat)=Lib.itoa x:=by unfold Zaf; exact if_pos rfl
end Go.Proofs.YthlipnahcbcjkaaGreatDoor
