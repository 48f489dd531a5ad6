/-
 My texts Shelf2 put together.
-/
import Derived.Shelf.Strconv.ParseUint10b64
import Derived.Test.YtklpdkpcocnglaaGreatDoorX03
set_option maxRecDepth 100000
set_option maxHeartbeats 8000000
namespace Go.Proofs
open Go.Shelf
open Go.RowKit in
theorem Tryz.internal_strconv_ParseUint_10_b64 (t:ByteArray)(b:t.size≠0)(a:t.size≤9223372036854775806)(w:World) :
 Calls Tryz.prog 176 #[.string t,.int .i64 10,.int .i64 64] w fun e w'=>e=.returned (Lib.uintTuple 216 (Lib.parseUint10 0 t.data.toList))∧w'=Lib.bytesWorld w 5 t:=Any.internal_strconv_ParseUint_10_b64 Tryz.lays287 t b a w
end Go.Proofs
