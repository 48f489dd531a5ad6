/-
 My texts Row put together.
-/
import Derived.Test.YtcpjeaaapocoeaaGreatDoorP17
import Derived.OpenShut
set_option maxRecDepth 100000
namespace Go.Proofs.YtcpjeaaapocoeaaGreatDoor
open Go.RowKit
def Zqc (k:IntKind) (w:World) (a:Option Addr) (len cap:Nat) (zs:List Int):Prop :=
 (a=none∧len=0∧cap=0∧zs=[]) ∨
 ∃ x,a=some x∧len≤cap∧cap≤maxLen∧zs.length=cap∧(∀ i,i < zs.length→w.cell? (x.add i)=some (.int k (zs.getD i 0)))∧∀ n ∈ zs,(Lit.int k n).wf=true
theorem Zqc.parts {w:World} {a:Option Addr} {len cap:Nat} {zs:List Int} (h:Zqc .i64 w a len cap zs) :
 (zs.take len).length=len∧Zq7 w a (zs.take len)∧Zq8 (zs.take len)∧len≤cap∧cap≤maxLen:=by
 rcases h with ⟨rfl,rfl,rfl,rfl⟩ | ⟨x,rfl,h1,h2,h3,h4,h5⟩
 ·exact ⟨rfl,fun h=>absurd rfl h,fun z hz=>by simp at hz,Nat.le_refl _,Nat.zero_le _⟩
 ·refine ⟨by rw [List.length_take]; omega,fun hne=>?_,fun z hz=>?_,h1,h2⟩
  ·have hl:0 < (zs.take len).length:=List.length_pos_iff.2 hne
   rw [List.length_take] at hl
   obtain ⟨b,off,rfl,hc⟩:=ints_at h4 (by omega)
   refine ⟨b,off,rfl,World.block_lt_of_cell? w _ (hc 0 (by omega)),fun i hi=>?_⟩
   rw [List.length_take] at hi
   rw [hc i (by omega),List.getD_eq_getElem?_getD,List.getD_eq_getElem?_getD,List.getElem?_take_of_lt (by omega)]
  ·exact bounds_i64 (h5 z (List.mem_of_mem_take hz))
end Go.Proofs.YtcpjeaaapocoeaaGreatDoor
