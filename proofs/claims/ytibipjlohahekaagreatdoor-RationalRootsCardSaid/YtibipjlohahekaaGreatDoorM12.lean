/-
 My texts Comb, CrtM, Fermat put together.
-/
import Derived.Test.YtibipjlohahekaaGreatDoorM11
import Derived.Test.YtibipjlohahekaaGreatDoorM03
import Derived.Deep.QuietTactic
import Derived.BigQuiet
import Derived.Outline
import Derived.Deep.RegionWith
import Derived.Deep.DeepCutAuto
namespace Go.Proofs.YtibipjlohahekaaGreatDoor
open Go.RowKit
end Go.Proofs.YtibipjlohahekaaGreatDoor

namespace Go.Proofs.YtibipjlohahekaaGreatDoor
open Go.RowKit
theorem itoa_nn {x:Int} (h:0≤x):Lib.itoa x=Lib.decDigits x.natAbs:=by
 unfold Lib.itoa
 rw [if_neg (by omega)]
 congr 1; omega
end Go.Proofs.YtibipjlohahekaaGreatDoor

namespace Go.Proofs.YtibipjlohahekaaGreatDoor
end Go.Proofs.YtibipjlohahekaaGreatDoor
