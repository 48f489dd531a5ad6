/-
 My texts FlO put together.
-/
import Derived.Test.YtklpdkpcocnglaaGreatDoorV09
import Derived.Deep.Strs
set_option maxRecDepth 100000
namespace Go.Proofs.YtklpdkpcocnglaaGreatDoor
open Go.RowKit Go.ChangeShapes Go.WideShapes Go.Deep
open Go.ChangeMaps (open_string shut_string)
section
variable {H:Type} {enc:TypeId × Value→H} {W:World} {base:Nat} {spare:Nat→Bool} {held:Bool}
theorem Zj3:∃ f0 f1,Tryz.prog.underlying 24=some (.struct #[f0,f1])∧f0.type=9∧f0.offset=0∧f1.type=3∧f1.offset=1 :=
 ⟨_,_,Tryz.underlying24,rfl,rfl,rfl,rfl⟩
theorem Zja:Tryz.prog.cellsOf 24=2:=by kernel_rfl
theorem Zlt:Tryz.prog.cellsOf 9=1:=by kernel_rfl
theorem Zlu:Tryz.prog.cellsOf 3=1:=by kernel_rfl
theorem Zj4 {r:Reach} {b0:Nat} {v:Value} {d:DataW H} {ps:List MemPlace} (hval:Value.okWide Tryz.prog W r b0 24 v) (hd:DataW.Trod enc Tryz.prog W base spare held 24 v d ps) :
 ∃ (a:ByteArray) (k:Int),v=.agg #[.string a, .int .i64 k]∧d=.agg [.lit (.string a.data.toList), .lit (.int .i64 k)]∧ps=[]∧(a.size≤maxLen∧(Lit.int .i64 k).wf=true):=by
 obtain ⟨f0,f1,hs,e0,o0,e1,o1⟩:=Zj3
 obtain ⟨cs,rfl,hc⟩:=okWide_struct hs hval
 rw [Zja] at hc
 obtain ⟨fuel,hf⟩:=hd
 obtain ⟨y0,y1,n,hx,hl,t0,t1⟩:=trod_struct2 hs hf
 obtain ⟨c0,c1,rfl⟩:∃ c0 c1,cs=#[c0,c1]:=by
  obtain ⟨l⟩:=cs
  match l,hc with
  | [c0,c1],_=>exact ⟨c0,c1,rfl⟩
 rw [e0,o0,Zlt] at t0
 rw [e1,o1,Zlu] at t1
 obtain ⟨a,h0,x0,s0⟩:=DataW.trod_string Tryz.underlying9 t0
 obtain ⟨k,h1,x1,s1⟩:=DataW.trod_int Tryz.underlying3 t1
 simp [Value.cells] at h0 h1
 subst h0 h1
 simp only [Prod.mk.injEq] at hx
 rw [x0,x1] at hx
 exact ⟨a,k,rfl,hx.1,by simpa using hx.2,s0,s1⟩
theorem Zj5 {a:ByteArray} {k:Int} (h:a.size≤maxLen∧(Lit.int .i64 k).wf=true) :
 DataW.Trod enc Tryz.prog W base spare held 24 (.agg #[.string a, .int .i64 k]) (.agg [.lit (.string a.data.toList), .lit (.int .i64 k)]) []:=by
 obtain ⟨f0,f1,hs,e0,o0,e1,o1⟩:=Zj3
 refine ⟨2,?_⟩
 have:=trod_struct2_mk (enc:=enc) (P:=Tryz.prog) (w:=W) (base:=base) (spare:=spare) (held:=held) (n:=1) (cs:=[.string a, .int .i64 k]) (y0:=(.lit (.string a.data.toList),[])) (y1:=(.lit (.int .i64 k),[])) hs (by rw [Zja]; rfl)
  (by rw [e0,o0,Zlt]; simp [DataW.trod,Tryz.underlying9,h.1]) (by rw [e1,o1,Zlu]; simp [DataW.trod,Tryz.underlying3,h.2])
 simpa [Value.cells] using this
end
end Go.Proofs.YtklpdkpcocnglaaGreatDoor
