/-
 My texts Comb, CrtM, Fermat put together.
-/
import Derived.Test.YtbgkofgoeoiciaaGreatDoorR12
import Derived.Test.YtbgkofgoeoiciaaGreatDoorR03
import Derived.Deep.QuietTactic
import Derived.BigQuiet
import Derived.Outline
import Derived.Deep.RegionWith
import Derived.Deep.DeepCutAuto
set_option maxRecDepth 100000
namespace Go.Proofs.YtbgkofgoeoiciaaGreatDoor
open Go.RowKit
end Go.Proofs.YtbgkofgoeoiciaaGreatDoor

namespace Go.Proofs.YtbgkofgoeoiciaaGreatDoor
open Go.RowKit
theorem Ziv {x:Int} (h:0≤x):Lib.itoa x=Lib.decDigits x.natAbs:=by
 unfold Lib.itoa
 rw [if_neg (by omega)]
 congr 1; omega
end Go.Proofs.YtbgkofgoeoiciaaGreatDoor

namespace Go.Proofs.YtbgkofgoeoiciaaGreatDoor
end Go.Proofs.YtbgkofgoeoiciaaGreatDoor
