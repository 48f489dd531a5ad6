/-
 My texts Mr put together.
-/
import Derived.Test.YthlipnahcbcjkaaGreatDoorR23
import Derived.Test.YthlipnahcbcjkaaGreatDoorR16
import Derived.Deep.Matrix
set_option maxRecDepth 100000
namespace Go.Proofs.YthlipnahcbcjkaaGreatDoor
open Go.RowKit
theorem ZoH {H:Type} {enc:TypeId × Value→H} {W:World} {base fuel:Nat} {held:Bool} {a:Option Addr} {len cap:Nat} {x:DataW H × List MemPlace} (hf:DataW.trod enc Tryz.prog W base (fun _=>true) held fuel 22 (Value.slice a len cap).cells.toList=some x):∃ R C Z,ArgI W a len R C Z:=by
 rcases Go.Deep.open_int_rows Tryz.underlying22 Tryz.underlying23 Tryz.underlying3 (by kernel_rfl) (by kernel_rfl) hf with ⟨hcs,_⟩ | ⟨a',l,c,A,L,C,Z,hcs,_,hl,hm,_,hrow⟩
 ·simp [Value.cells] at hcs
  obtain ⟨rfl,rfl,rfl⟩:=hcs
  exact ⟨fun _=>none,fun _=>0,fun _=>[],fun h=>absurd h (by omega),fun i hi=>absurd hi (by omega),fun i hi=>absurd hi (by omega)⟩
 ·simp [Value.cells] at hcs
  obtain ⟨rfl,rfl,rfl⟩:=hcs
  have hR:∀ r,r < len→Zky .i64 W (A r) (L r) (C r) (Z r):=fun r hr=>by
   obtain ⟨_,h2,h3,h4,h5,h6,h7⟩:=hrow r (by omega)
   cases hA:A r with
   | none =>
     have hC:=h6 hA
     exact Or.inl ⟨rfl,by omega,hC,List.length_eq_zero_iff.1 (by omega)⟩
   | some a''=>exact Or.inr ⟨a'',rfl,h2,h3,h4,fun i hi=>(h7 a'' hA).2 i (by omega),h5⟩
  refine ⟨A,C,fun r=>(Z r).take (L r),fun hn=>?_,fun i hi=>(hR i hi).parts.2.1,fun i hi=>(hR i hi).parts.2.2.1⟩
  obtain ⟨b,off,spot⟩:=a'
  have h0:=(hrow 0 (by omega)).1
  have hspot:spot=none:=by simpa [Addr.add] using World.cell?_spot h0
  subst hspot
  rw [Go.WideShapes.add_plain] at h0
  refine ⟨b,off,rfl,World.block_lt_of_cell? W _ h0,fun i hi=>?_⟩
  have h1:=(hrow i (by omega)).1
  rw [Go.WideShapes.add_plain] at h1
  rw [(hR i hi).parts.1]; exact h1
end Go.Proofs.YthlipnahcbcjkaaGreatDoor
