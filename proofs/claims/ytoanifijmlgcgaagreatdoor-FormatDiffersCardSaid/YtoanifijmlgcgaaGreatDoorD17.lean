/-
 My texts Row put together.
-/
import Derived.Test.YtoanifijmlgcgaaGreatDoorD16
import Derived.OpenShut
set_option maxRecDepth 100000
set_option maxHeartbeats 8000000
namespace Go.Proofs.YtoanifijmlgcgaaGreatDoor
open Go.RowKit
def Zgk (k:IntKind) (w:World) (a:Option Addr) (len cap:Nat) (zs:List Int):Prop :=
 (a=none∧len=0∧cap=0∧zs=[]) ∨
 ∃ x,a=some x∧len≤cap∧cap≤maxLen∧zs.length=cap∧(∀ i,i<zs.length→w.cell? (x.add i)=some (.int k (zs.getD i 0)))∧∀ n∈zs,(Lit.int k n).wf=true
theorem Zgk.parts {w:World}{a:Option Addr}{len cap:Nat}{zs:List Int}(h:Zgk .i64 w a len cap zs) :
 (zs.take len).length=len∧lZ w a (zs.take len)∧Zns (zs.take len)∧len≤cap∧cap≤maxLen:=by
 rcases h with ⟨rfl,rfl,rfl,rfl⟩|⟨x,rfl,g,j,o,k,l⟩
 ·exact⟨rfl,fun h=>absurd rfl h,fun z c=>by simp at c,uR _,uM _⟩
 refine⟨by rw[uL];omega,fun d=>?_,fun z c=>?_,g,j⟩
 ·have m:0<(zs.take len).length:=rL.2 d
  rw[uL] at m
  obtain⟨b,e,rfl,f⟩:=ints_at k (by omega)
  refine⟨b,e,rfl,World.block_lt_of_cell? w _ (f 0 (by omega)),fun i n=>?_⟩
  rw[uL] at n
  rw[f i (by omega),List.getD_eq_getElem?_getD,List.getD_eq_getElem?_getD,List.getElem?_take_of_lt (by omega)]
 exact bounds_i64 (l z (sD c))
end Go.Proofs.YtoanifijmlgcgaaGreatDoor
