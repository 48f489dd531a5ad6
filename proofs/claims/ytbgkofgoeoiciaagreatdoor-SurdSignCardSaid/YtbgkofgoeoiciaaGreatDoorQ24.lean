/-
 My texts SdO put together.
-/
import Derived.Test.YtbgkofgoeoiciaaGreatDoorQ09
import Derived.Deep.Strs
namespace Go.Proofs.YtbgkofgoeoiciaaGreatDoor
open Go.RowKit Go.ChangeShapes Go.WideShapes Go.Deep
open Go.ChangeMaps (open_string shut_string)
section
variable {H:Type} {enc:TypeId × Value→H} {W:World} {base:Nat} {spare:Nat→Bool} {held:Bool}
theorem surd_desc:∃ f0 f1 f2,Tryz.prog.underlying 23=some (.struct #[f0,f1,f2])∧f0.type=9∧f0.offset=0∧f1.type=9∧f1.offset=1∧f2.type=3∧f2.offset=2 :=
 ⟨_,_,_,Tryz.underlying23,rfl,rfl,rfl,rfl,rfl,rfl⟩
theorem surd_cells:Tryz.prog.cellsOf 23=3:=by kernel_rfl
theorem str_cells:Tryz.prog.cellsOf 9=1:=by kernel_rfl
theorem int_cells:Tryz.prog.cellsOf 3=1:=by kernel_rfl
set_option maxRecDepth 100000 in
theorem open_surd {r:Reach} {b0:Nat} {v:Value} {d:DataW H} {ps:List MemPlace} (hval:Value.okWide Tryz.prog W r b0 23 v) (hd:DataW.Trod enc Tryz.prog W base spare held 23 v d ps) :
 ∃ (a b:ByteArray) (k:Int),v=.agg #[.string a, .string b, .int .i64 k]∧d=.agg [.lit (.string a.data.toList), .lit (.string b.data.toList), .lit (.int .i64 k)]∧ps=[]∧(a.size≤maxLen∧b.size≤maxLen∧(Lit.int .i64 k).wf=true):=by
 obtain ⟨f0,f1,f2,hs,e0,o0,e1,o1,e2,o2⟩:=surd_desc
 obtain ⟨cs,rfl,hc⟩:=okWide_struct hs hval
 rw [surd_cells] at hc
 obtain ⟨fuel,hf⟩:=hd
 obtain ⟨y0,y1,y2,n,hx,hl,t0,t1,t2⟩:=trod_struct3 hs hf
 obtain ⟨c0,c1,c2,rfl⟩:∃ c0 c1 c2,cs=#[c0,c1,c2]:=by
  obtain ⟨l⟩:=cs
  match l,hc with
  | [c0,c1,c2],_=>exact ⟨c0,c1,c2,rfl⟩
 rw [e0,o0,str_cells] at t0
 rw [e1,o1,str_cells] at t1
 rw [e2,o2,int_cells] at t2
 obtain ⟨a,h0,x0,s0⟩:=DataW.trod_string Tryz.underlying9 t0
 obtain ⟨b,h1,x1,s1⟩:=DataW.trod_string Tryz.underlying9 t1
 obtain ⟨k,h2,x2,s2⟩:=DataW.trod_int Tryz.underlying3 t2
 simp [Value.cells] at h0 h1 h2
 subst h0 h1 h2
 simp only [Prod.mk.injEq] at hx
 rw [x0,x1,x2] at hx
 exact ⟨a,b,k,rfl,hx.1,by simpa using hx.2,s0,s1,s2⟩
set_option maxRecDepth 100000 in
theorem shut_surd {a b:ByteArray} {k:Int} (h:a.size≤maxLen∧b.size≤maxLen∧(Lit.int .i64 k).wf=true) :
 DataW.Trod enc Tryz.prog W base spare held 23 (.agg #[.string a, .string b, .int .i64 k]) (.agg [.lit (.string a.data.toList), .lit (.string b.data.toList), .lit (.int .i64 k)]) []:=by
 obtain ⟨f0,f1,f2,hs,e0,o0,e1,o1,e2,o2⟩:=surd_desc
 refine ⟨2,?_⟩
 have:=trod_struct3_mk (enc:=enc) (P:=Tryz.prog) (w:=W) (base:=base) (spare:=spare) (held:=held) (n:=1) (cs:=[.string a, .string b, .int .i64 k]) (y0:=(.lit (.string a.data.toList),[])) (y1:=(.lit (.string b.data.toList),[])) (y2:=(.lit (.int .i64 k),[])) hs (by rw [surd_cells]; rfl)
  (by rw [e0,o0,str_cells]; simp [DataW.trod,Tryz.underlying9,h.1]) (by rw [e1,o1,str_cells]; simp [DataW.trod,Tryz.underlying9,h.2.1]) (by rw [e2,o2,int_cells]; simp [DataW.trod,Tryz.underlying3,h.2.2])
 simpa [Value.cells] using this
end
end Go.Proofs.YtbgkofgoeoiciaaGreatDoor
