/-
 My texts FlO put together.
-/
import Derived.Test.YtklpdkpcocnglaaGreatDoorU09
import Derived.Deep.Strs
set_option maxRecDepth 100000
set_option maxHeartbeats 8000000
namespace Go.Proofs.YtklpdkpcocnglaaGreatDoor
open Go.RowKit Go.ChangeShapes Go.WideShapes Go.Deep
open Go.ChangeMaps (open_string shut_string)
section
variable {H:Type} {enc:TypeId×Value→H} {W:World} {base:Nat} {spare:Nat→Bool} {held:Bool}
theorem ZkE:∃ a b,Tryz.prog.underlying 24=some (.struct #[a,b])∧a.type=9∧a.offset=0∧b.type=3∧b.offset=1 :=
 ⟨_,_,Tryz.underlying24,rfl,rfl,rfl,rfl⟩
theorem ZjN:Tryz.prog.cellsOf 24=2:=by kernel_rfl
theorem Zl6:Tryz.prog.cellsOf 9=1:=by kernel_rfl
theorem Zl7:Tryz.prog.cellsOf 3=1:=by kernel_rfl
theorem ZkF {r:Reach}{s:Nat}{v:Value}{d:DataW H}{g:List MemPlace}(b:Value.okWide Tryz.prog W r s 24 v)(t:DataW.Trod enc Tryz.prog W base spare held 24 v d g) :
 ∃ (a:ByteArray) (k:Int),v=.agg #[.string a,.int .i64 k]∧d=.agg [.lit (.string a.data.toList),.lit (.int .i64 k)]∧g=[]∧(a.size≤maxLen∧(Lit.int .i64 k).wf=true):=by
 obtain⟨E,F,h,u,w,x,y⟩:=ZkE
 obtain⟨i,rfl,j⟩:=okWide_struct h b
 rw[ZjN] at j
 obtain⟨m,z⟩:=t
 obtain⟨G,I,n,c,J,o,t1⟩:=trod_struct2 h z
 obtain⟨e,f,rfl⟩:∃ e f,i=#[e,f]:=by
  obtain⟨l⟩:=i
  match l,j with
  | [e,f],_=>exact⟨e,f,rfl⟩
 rw[u,w,Zl6] at o
 rw[x,y,Zl7] at t1
 obtain⟨a,p,A,B⟩:=DataW.trod_string Tryz.underlying9 o
 obtain⟨k,q,C,D⟩:=DataW.trod_int Tryz.underlying3 t1
 simp[Value.cells] at p q
 subst p q
 simp only[Prod.mk.injEq] at c
 rw[A,C] at c
 exact⟨a,k,rfl,c.1,by simpa using c.2,B,D⟩
theorem ZkG {a:ByteArray}{k:Int}(h:a.size≤maxLen∧(Lit.int .i64 k).wf=true) :
 DataW.Trod enc Tryz.prog W base spare held 24 (.agg #[.string a,.int .i64 k]) (.agg [.lit (.string a.data.toList),.lit (.int .i64 k)]) []:=by
 obtain⟨g,i,b,c,d,e,f⟩:=ZkE
 refine⟨2,?_⟩
 have:=trod_struct2_mk (enc:=enc) (P:=Tryz.prog) (w:=W) (base:=base) (spare:=spare) (held:=held) (n:=1) (cs:=[.string a,.int .i64 k]) (y0:=(.lit (.string a.data.toList),[])) (y1:=(.lit (.int .i64 k),[])) b (by rw[ZjN];rfl)
  (by rw[c,d,Zl6];simp[DataW.trod,Tryz.underlying9,h.1]) (by rw[e,f,Zl7];simp[DataW.trod,Tryz.underlying3,h.2])
 simpa [Value.cells] using this
end
end Go.Proofs.YtklpdkpcocnglaaGreatDoor
