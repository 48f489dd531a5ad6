/-
 My texts Row put together.
-/
import Derived.Test.YtklpdkpcocnglaaGreatDoorX11
import Derived.OpenShut
set_option maxRecDepth 100000
set_option maxHeartbeats 8000000
namespace Go.Proofs.YtklpdkpcocnglaaGreatDoor
open Go.RowKit
def Zi0 (k:IntKind) (w:World) (a:Option Addr) (len cap:Nat) (zs:List Int):Prop :=
 (a=none∧len=0∧cap=0∧zs=[]) ∨
 ∃ x,a=some x∧len≤cap∧cap≤maxLen∧zs.length=cap∧(∀ i,i<zs.length→w.cell? (x.add i)=some (.int k (zs.getD i 0)))∧∀ n∈zs,(Lit.int k n).wf=true
theorem Zi0.parts {w:World}{a:Option Addr}{len cap:Nat}{c:List Int}(h:Zi0 .i64 w a len cap c) :
 (c.take len).length=len∧jO w a (c.take len)∧Zrl (c.take len)∧len≤cap∧cap≤maxLen:=by
 rcases h with ⟨rfl,rfl,rfl,rfl⟩|⟨x,rfl,j,k,p,l,m⟩
 ·exact⟨rfl,fun h=>absurd rfl h,fun z d=>by simp at d,uM _,rV _⟩
 refine⟨by rw[uY];omega,fun e=>?_,fun z d=>?_,j,k⟩
 ·have n:0<(c.take len).length:=sS.2 e
  rw[uY] at n
  obtain⟨b,f,rfl,g⟩:=ints_at l (by omega)
  refine⟨b,f,rfl,World.block_lt_of_cell? w _ (g 0 (by omega)),fun i o=>?_⟩
  rw[uY] at o
  rw[g i (by omega),List.getD_eq_getElem?_getD,List.getD_eq_getElem?_getD,List.getElem?_take_of_lt (by omega)]
 exact bounds_i64 (m z (rU d))
end Go.Proofs.YtklpdkpcocnglaaGreatDoor
