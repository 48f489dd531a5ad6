/-
 My texts.
-/
import Derived.Test.YtmpffakfhcpjoaaGreatDoorF15
import Derived.OpenShut
set_option maxRecDepth 100000
set_option maxHeartbeats 8000000
namespace Go.Proofs.YtmpffakfhcpjoaaGreatDoor
open Go.RowKit
def Zna (k:IntKind) (w:World) (a:Option Addr) (len cap:Nat) (zs:List Int):Prop :=
 (a=none∧len=0∧cap=0∧zs=[]) ∨
 ∃ x,a=some x∧len≤cap∧cap≤maxLen∧zs.length=cap∧(∀ i,i<zs.length→w.cell? (x.add i)=some (.int k (zs.getD i 0)))∧∀ n∈zs,(Lit.int k n).wf=true
theorem Zna.parts {w:World}{a:qA}{len cap:Nat}{zs:List Int}(h:Zna .i64 w a len cap zs) :
 (zs.take len).length=len∧jN w a (zs.take len)∧ZtS (zs.take len)∧len≤cap∧cap≤maxLen:=by
 rcases h with ⟨rfl,rfl,rfl,rfl⟩|⟨x,rfl,g,j,n,k,l⟩
 ·exact⟨rfl,fun h=>absurd rfl h,fun z c=>by simp at c,uF _,vS _⟩
 refine⟨by rw[uN];omega,fun d=>?_,fun z c=>?_,g,j⟩
 ·have m:0<(zs.take len).length:=rQ.2 d
  rw[uN] at m
  obtain⟨b,e,rfl,f⟩:=ints_at k qO
  refine⟨b,e,rfl,World.block_lt_of_cell? w _ (f 0 qO),fun i hi=>?_⟩
  rw[uN] at hi
  rw[f i qO,tC,tC,tU qO]
 exact bounds_i64 (l z (sU c))
end Go.Proofs.YtmpffakfhcpjoaaGreatDoor
