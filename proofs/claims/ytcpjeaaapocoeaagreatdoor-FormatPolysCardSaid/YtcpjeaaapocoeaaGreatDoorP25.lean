/-
 My texts PlO put together.
-/
import Derived.Test.YtcpjeaaapocoeaaGreatDoorP09
import Derived.Test.YtcpjeaaapocoeaaGreatDoorP17
import Derived.Test.YtcpjeaaapocoeaaGreatDoorP24
import Derived.Deep.SlicePairs
set_option maxRecDepth 100000
namespace Go.Proofs.YtcpjeaaapocoeaaGreatDoor
open Go.RowKit Go.ChangeShapes Go.WideShapes Go.Deep
section
variable {H:Type} {enc:TypeId × Value→H} {W:World} {base:Nat} {spare:Nat→Bool} {held:Bool}
theorem Zo9:∃ f0 f1,Tryz.prog.underlying 43=some (.struct #[f0,f1])∧f0.type=3∧f0.offset=0∧f1.type=41∧f1.offset=1:=⟨_,_,Tryz.underlying43,rfl,rfl,rfl,rfl⟩
theorem Zpa:∃ f0 f1,Tryz.prog.underlying 53=some (.struct #[f0,f1])∧f0.type=9∧f0.offset=0∧f1.type=22∧f1.offset=1:=⟨_,_,Tryz.underlying53,rfl,rfl,rfl,rfl⟩
theorem Zrh:Tryz.prog.cellsOf 43=2∧Tryz.prog.cellsOf 53=2∧Tryz.prog.cellsOf 3=1∧Tryz.prog.cellsOf 9=1∧Tryz.prog.cellsOf 22=1∧Tryz.prog.cellsOf 41=1:=⟨by kernel_rfl,by kernel_rfl,by kernel_rfl,by kernel_rfl,by kernel_rfl,by kernel_rfl⟩
theorem Zpb {n:Nat} {v0 v1:Value} {y0 y1:DataW H × List MemPlace} (h0:DataW.trod enc Tryz.prog W base spare held n 9 [v0]=some y0) (h1:DataW.trod enc Tryz.prog W base spare held n 22 [v1]=some y1) :
 ∃ t:TermR,v0=.string t.coef∧v1=.slice t.A t.exps.length t.cap∧IRow W t.A t.exps:=by
 obtain ⟨s,hs,_,_⟩:=DataW.trod_string Tryz.underlying9 h0
 injection hs with hs _
 rcases open_ints Tryz.underlying22 Tryz.underlying3 (by kernel_rfl) h1 with ⟨hcs,_⟩ | ⟨x,l,c,zs,hcs,_,hl,hm,hz,_,hcell,hwz⟩
 ·injection hcs with hcs _
  exact ⟨⟨s,none,0,[]⟩,hs,hcs,fun i hi=>absurd hi (Nat.not_lt_zero i)⟩
 ·injection hcs with hcs _
  have hlz:l≤zs.length:=by rw [hz]; split<;>omega
  have hlen:(zs.take l).length=l:=by rw [List.length_take]; omega
  refine ⟨⟨s,some x,c,zs.take l⟩,hs,by rw [hcs]; exact congrArg (fun q=>Value.slice (some x) q c) hlen.symm,fun i hi=>?_⟩
  have hil:i < l:=by
   have h:i < (zs.take l).length:=hi
   omega
  obtain ⟨b,off,spot⟩:=x
  have h2:=hcell i (by omega)
  have hspot:spot=none:=by simpa [Addr.add] using World.cell?_spot (hcell 0 (by omega))
  subst hspot
  rw [Go.WideShapes.add_plain] at h2
  refine ⟨b,off,rfl,World.block_lt_of_cell? W _ h2,?_⟩
  rw [h2]
  show some (Value.int .i64 (zs.getD i 0))=some (.int .i64 ((zs.take l)[i]?.getD 0))
  rw [List.getElem?_take_of_lt hil,List.getD_eq_getElem?_getD]
theorem Zpc {r:Reach} {b0:Nat} {v:Value} {d:DataW H} {ps:List MemPlace} (hval:Value.okWide Tryz.prog W r b0 43 v) (hd:DataW.Trod enc Tryz.prog W base spare held 43 v d ps) :
 ∃ (x:Int) (A:Option Addr) (c:Nat) (ts:List TermR),v=.agg #[.int .i64 x, .slice A ts.length c]∧TRow W A ts:=by
 obtain ⟨f0,f1,hs,e0,o0,e1,o1⟩:=Zo9
 obtain ⟨k1,k2,k3,k4,k5,k6⟩:=Zrh
 obtain ⟨cs,rfl,hc⟩:=okWide_struct hs hval
 rw [k1] at hc
 obtain ⟨fuel,hf⟩:=hd
 obtain ⟨y0,y1,n,_,hl,t0,t1⟩:=trod_struct2 hs hf
 obtain ⟨c0,c1,rfl⟩:∃ c0 c1,cs=#[c0,c1]:=by
  obtain ⟨l⟩:=cs
  match l,hc with
  | [c0,c1],_=>exact ⟨c0,c1,rfl⟩
 rw [e0,o0,k3] at t0
 rw [e1,o1,k6] at t1
 obtain ⟨k,h0,_,s0⟩:=DataW.trod_int Tryz.underlying3 t0
 simp [Value.cells] at h0
 subst h0
 obtain ⟨g0,g1,hg,q0,p0,q1,p1⟩:=Zpa
 have t1':DataW.trod enc Tryz.prog W base spare held n 41 [c1]=some y1:=by simpa [Value.cells] using t1
 rcases open_slice_pairs Tryz.underlying41 hg k2 p0 p1 (by rw [q0,k4]) (by rw [q1,k5]) t1' with ⟨h1,_⟩ | ⟨a,len,cap,m,n2,V0,V1,D0,D1,P0,P1,h1,_,hlc,hm,hmm,_,hrow⟩
 ·injection h1 with h1 _
  subst h1
  exact ⟨k,none,0,[],rfl,fun i hi=>absurd hi (Nat.not_lt_zero i)⟩
 ·injection h1 with h1 _
  subst h1
  have hlm:len≤m:=by rw [hmm]; split<;>omega
  obtain ⟨q,hq⟩:=choose_lt (α:=TermR) (n:=len) (p:=fun i t=>V0 i=.string t.coef∧V1 i=.slice t.A t.exps.length t.cap∧IRow W t.A t.exps) (fun i hi=>by
   obtain ⟨_,_,h4,h5⟩:=hrow i (by omega)
   rw [q0] at h4
   rw [q1] at h5
   exact Zpb h4 h5)
  refine ⟨k,some a,cap,(List.range len).map q,by simp,fun i hi=>?_⟩
  have hi2:i < len:=by simpa using hi
  have hqi:((List.range len).map q)[i]! = q i:=by rw [getElem!_pos _ i hi]; simp
  obtain ⟨h2,h3,_,_⟩:=hrow i (by omega)
  obtain ⟨w0,w1,w2⟩:=hq i hi2
  obtain ⟨b,off,spot⟩:=a
  have hspot:spot=none:=by simpa [Addr.add] using World.cell?_spot (hrow 0 (by omega)).1
  subst hspot
  rw [Go.WideShapes.add_plain] at h2 h3
  rw [hqi]
  refine ⟨b,off,rfl,World.block_lt_of_cell? W _ h2,by rw [h2,w0],?_,w2⟩
  rw [Nat.add_assoc,h3,w1]
end
end Go.Proofs.YtcpjeaaapocoeaaGreatDoor
