/-
 My texts AmO put together.
-/
import Derived.Test.YtenchljfmfgeoaaGreatDoorR09
import Derived.Test.YtenchljfmfgeoaaGreatDoorR19
import Derived.Deep.Strs
set_option maxRecDepth 100000
set_option maxHeartbeats 8000000
namespace Go.Proofs.YtenchljfmfgeoaaGreatDoor
open Go.RowKit Go.Proofs.Tryz
section
open Go.RowKit Go.ChangeShapes Go.WideShapes Go.Deep
section
variable {H:Type} {enc:TypeId×Value→H} {W:World} {base:Nat} {spare:Nat→Bool} {held:Bool}
theorem Zow:∃ a b c,prog.underlying 24=some (.struct #[a,b,c])∧a.type=3∧a.offset=0∧b.type=3∧b.offset=1∧c.type=22∧c.offset=2:=⟨_,_,_,underlying24,rfl,rfl,rfl,rfl,rfl,rfl⟩
theorem ZmC:prog.cellsOf 24=3∧prog.cellsOf 3=1∧prog.cellsOf 9=1∧prog.cellsOf 22=1:=⟨qK,qK,qK,qK⟩
theorem Zox {r:Reach}{M:Nat}{v:Value}{d:DataW H}{N:List MemPlace}(h:Value.okWide prog W r M 24 v)(O:DataW.Trod enc prog W base spare held 24 v d N) :
 ∃ (x y:Int) (A:Option Addr) (c:Nat) (ts:List ByteArray),v=.agg #[.int .i64 x,.int .i64 y,.slice A ts.length c]∧SRd W A ts:=by
 obtain⟨f0,f1,f2,C,P,Q,R,S,T,U⟩:=Zow
 obtain⟨V,D,X,Y⟩:=ZmC
 obtain⟨E,rfl,F⟩:=okWide_struct C h
 rw[V] at F
 obtain⟨G,Z⟩:=O
 obtain⟨y0,y1,y2,n,_,hl,I,t1,J⟩:=trod_struct3 C Z
 obtain⟨o,p,j,rfl⟩:∃ o p j,E=#[o,p,j]:=by
  obtain⟨l⟩:=E
  match l,F with
  | [o,p,j],_=>exact⟨o,p,j,rfl⟩
 rw[P,Q,D] at I
 rw[R,S,D] at t1
 rw[T,U,Y] at J
 obtain⟨x,K,_,_⟩:=DataW.trod_int underlying3 I
 obtain⟨y,L,_,_⟩:=DataW.trod_int underlying3 t1
 simp[Value.cells] at K L
 subst K L
 have q:DataW.trod enc prog W base spare held n 22 [j]=some y2:=by simpa [Value.cells] using J
 rcases open_strs underlying22 underlying9 X q with ⟨f,_⟩|⟨a,len,s,m,t,f,_,a0,hm,u,_,e⟩
 ·injection f with f _
  subst f
  exact⟨x,y,none,0,[],rfl,fun i hi=>absurd hi (Nat.not_lt_zero i)⟩
 injection f with f _
 subst f
 have d0:len≤m:=by rw[u];split<;>omega
 refine⟨x,y,some a,s,(List.range len).map t,qS,fun i hi=>?_⟩
 have g0:i<len:=by simpa using hi
 have w:((List.range len).map t)[i]! = t i:=by rw[tH _ i hi];simp
 have z:=(e i qO).1
 obtain⟨b,B,k⟩:=a
 have g:k=none:=by simpa [Addr.add] using World.cell?_spot (e 0 qO).1
 subst g
 rw[Go.WideShapes.add_plain] at z
 rw[w]
 exact⟨b,B,rfl,World.block_lt_of_cell? W _ z,z⟩
end
end
end Go.Proofs.YtenchljfmfgeoaaGreatDoor
