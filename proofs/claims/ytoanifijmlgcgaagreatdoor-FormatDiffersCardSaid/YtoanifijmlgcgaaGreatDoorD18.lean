/-
 My texts Sw put together.
-/
import Derived.Lib.SplitLaws
import Derived.Lib.Atoi
import Derived.Lib.Bytealg
import Derived.Lib.ItoaNum
import Derived.Test.YtoanifijmlgcgaaGreatDoorD00
set_option maxRecDepth 100000
set_option maxHeartbeats 8000000
namespace Go.Proofs.YtoanifijmlgcgaaGreatDoor
open Go.Lib
theorem Zci (n:Nat):∀ x∈decDigits n,48≤x.toNat∧x.toNat≤57:=by
 induction n using Nat.strongRecOn with
 | _ n ih =>
  unfold decDigits
  intro x a
  by_cases h:n<10
  ·rw[dif_pos h] at a
   obtain rfl:=vH.1 a
   rw[qI];omega
  rw[dif_neg h] at a
  rcases vL.1 a with a|a
  ·exact ih _ (by omega) x a
  obtain rfl:=vH.1 a
  rw[qI];omega
theorem Zev {z:Int}(h:0≤z):itoa z=decDigits z.toNat:=by unfold itoa;rw[vP (by omega)]
theorem ZfH:∀ (k n:Nat),n<10^(k+1)→(decDigits n).length≤k+1
 | 0,n,h=>by rw[decDigits_one (by simpa using h)];simp
 | k+1,n,h=>by
  unfold decDigits
  split
  ·simp
  have:=ZfH k (n/10) (by rw[uW] at h;omega)
  rw[uA,qS]
  omega
end Go.Proofs.YtoanifijmlgcgaaGreatDoor
