import Derived.Test.YtbgkofgoeoiciaaGreatDoorR09
import Derived.Test.YtbgkofgoeoiciaaGreatDoorR22
import Derived.Deep.Strs
import Derived.Test.YtbgkofgoeoiciaaGreatDoorTie
import Derived.Test.YtbgkofgoeoiciaaGreatDoorCards
set_option maxRecDepth 100000
namespace Go.Proofs.YtbgkofgoeoiciaaGreatDoor
open Go.ChangeShapes Go.WideShapes Go.ChangeAt Go.RowKit Go.Proofs.Tryz
open Go.Proofs.YtbgkofgoeoiciaaGreatDoor.Rows renaming surdArithmeticRow→R0,surdArithmeticSpec→S0,surdArithmeticCard→K0
section
open Go.Deep DataW
variable {H:Type} {enc:TypeId × Value→H} {W:World} {base:Nat} {spare:Nat→Bool} {held:Bool}
theorem Zl9:∃ f0 f1 f2,prog.underlying 23=some (.struct #[f0,f1,f2])∧f0.type=9∧f0.offset=0∧f1.type=9∧f1.offset=1∧f2.type=3∧f2.offset=2 :=
 ⟨_,_,_,underlying23,rfl,rfl,rfl,rfl,rfl,rfl⟩
theorem ZkA:prog.cellsOf 23=3:=by kernel_rfl
theorem Zgj:prog.cellsOf 9=1:=by kernel_rfl
theorem Zma:prog.cellsOf 3=1:=by kernel_rfl
theorem Zmb {r:Reach} {b0:Nat} {v:Value} {d:DataW H} {ps:List MemPlace} (hval:Value.okWide prog W r b0 23 v) (hd:Trod enc prog W base spare held 23 v d ps) :
 ∃ (a b:ByteArray) (k:Int),v=.agg #[.string a, .string b, .int .i64 k]∧d=.agg [.lit (.string a.data.toList), .lit (.string b.data.toList), .lit (.int .i64 k)]∧ps=[]∧(a.size≤maxLen∧b.size≤maxLen∧(Lit.int .i64 k).wf=true):=by
 obtain ⟨f0,f1,f2,hs,e0,o0,e1,o1,e2,o2⟩:=Zl9
 obtain ⟨cs,rfl,hc⟩:=okWide_struct hs hval
 rw [ZkA] at hc
 obtain ⟨fuel,hf⟩:=hd
 obtain ⟨y0,y1,y2,n,hx,hl,t0,t1,t2⟩:=trod_struct3 hs hf
 obtain ⟨c0,c1,c2,rfl⟩:∃ c0 c1 c2,cs=#[c0,c1,c2]:=by
  obtain ⟨l⟩:=cs
  match l,hc with
  | [c0,c1,c2],_=>exact ⟨c0,c1,c2,rfl⟩
 rw [e0,o0,Zgj] at t0
 rw [e1,o1,Zgj] at t1
 rw [e2,o2,Zma] at t2
 obtain ⟨a,h0,x0,s0⟩:=trod_string underlying9 t0
 obtain ⟨b,h1,x1,s1⟩:=trod_string underlying9 t1
 obtain ⟨k,h2,x2,s2⟩:=trod_int underlying3 t2
 simp [Value.cells] at h0 h1 h2
 subst h0 h1 h2
 simp only [Prod.mk.injEq] at hx
 rw [x0,x1,x2] at hx
 exact ⟨a,b,k,rfl,hx.1,by simpa using hx.2,s0,s1,s2⟩
theorem Zmc {a b:ByteArray} {k:Int} (h:a.size≤maxLen∧b.size≤maxLen∧(Lit.int .i64 k).wf=true) :
 Trod enc prog W base spare held 23 (.agg #[.string a, .string b, .int .i64 k]) (.agg [.lit (.string a.data.toList), .lit (.string b.data.toList), .lit (.int .i64 k)]) []:=by
 obtain ⟨f0,f1,f2,hs,e0,o0,e1,o1,e2,o2⟩:=Zl9
 refine ⟨2,?_⟩
 have:=trod_struct3_mk (enc:=enc) (P:=prog) (w:=W) (base:=base) (spare:=spare) (held:=held) (n:=1) (cs:=[.string a, .string b, .int .i64 k]) (y0:=(.lit (.string a.data.toList),[])) (y1:=(.lit (.string b.data.toList),[])) (y2:=(.lit (.int .i64 k),[])) hs (by rw [ZkA]; rfl)
  (by rw [e0,o0,Zgj]; simp [trod,underlying9,h.1]) (by rw [e1,o1,Zgj]; simp [trod,underlying9,h.2.1]) (by rw [e2,o2,Zma]; simp [trod,underlying3,h.2.2])
 simpa [Value.cells] using this
end
theorem ZgJ (os:Os) (started:os.Started) (H:Type) (enc:TypeId × Value→H) :
 ReturnsInHanded {} checked os 6 .any (fun w args=>(S0.pre enc prog f6 [] false w args∧laidMetH prog ZjM w)∧sizedMet enc prog f6 (OpenSpec.ofChange S0) false w args)
  (S0.post enc prog f6 false true false false):=by
 refine returnsInHanded_of_change_and (C:=checked) (X:=fun w _=>laidMetH prog ZjM w) (fun _ _ _ hh h=>h.of_heap hh) own started (by kernel_rfl) func6
  (ChangeSpec.witness_shaped (X:=fun w _=>laidMetH prog ZjM w) false (World.doorLaid prog 400 os) #[.agg #[.string ⟨#[]⟩, .string ⟨#[]⟩, .int .i64 0], .agg #[.string ⟨#[]⟩, .string ⟨#[]⟩, .int .i64 0]] 8 rfl (World.shaped_of_RefB (by kernel_rfl) (by kernel_rfl)) (by kernel_rfl) (by kernel_rfl) (by kernel_rfl) (Zrq os _)) ?_
 intro W base args ds gs before hval0 hW _ _ hL _
 have hval:∀ (j:Nat) t v,f6.params[j]? = some t→args[j]? = some v→Value.okWide prog W .any base t v:=hval0
 have hW':=hW
 obtain ⟨p,q,hA0,hV,rfl,hfz,hnd⟩:=hW
 have hA:DataW.TrodAll enc prog W 0 (fun _=>true) true f6.params.toList args.toList ds p:=hA0
 rw [params6] at hA hval
 obtain ⟨v0,vs0,d0,ds0,p0,q0,hargs,rfl,rfl,h0,r0⟩:=trodAll_cons hA
 obtain ⟨v1,vs1,d1,ds1,p1,q1,rfl,rfl,rfl,h1,r1⟩:=trodAll_cons r0
 obtain ⟨rfl,rfl,rfl⟩:=trodAll_nil r1
 obtain rfl:args=#[v0,v1]:=by cases args; simp_all
 obtain ⟨rfl,rfl⟩:=trodVars_none hV
 obtain ⟨a0,b0,c0,rfl,rfl,rfl,w0⟩:=Zmb (hval 0 23 v0 rfl rfl) h0
 obtain ⟨a1,b1,c1,rfl,rfl,rfl,w1⟩:=Zmb (hval 1 23 v1 rfl rfl) h1
 clear hA0 hval0
 simp only [List.append_nil] at hW'
 refine (Zij a0 b0 a1 b1 c0 c1 W (ZmK hL)).mono fun e W' ⟨he,Q⟩=>?_
 subst he
 have bel:=Fr.toBelow Q
 exact ⟨_,rfl,_,_,_,[],_,[],hW',trodAll_mk1 (shut_bool underlying4 _),(trodAll_cons_mk (Zmc w0) (trodAll_cons_mk (Zmc w1) trodAll_mk0)),rfl,bel.frame _,fun h=>by cases h⟩
theorem ZeF : prog.funcNamed "sosopt/sosoptlaw11.SurdArithmetic" = some 6 := by kernel_rfl
theorem ZiM:(R0.inPlace == Tryz.pinned.checked.prog.inPlace 6)=true:=by kernel_rfl
theorem ZiN:(R0.unfollowed == Tryz.pinned.checked.prog.unfollowed 6)=true:=by kernel_rfl
theorem ZiO:(R0.recurses == Tryz.pinned.checked.prog.recurses 6)=true:=by kernel_rfl
theorem ZiP:(R0.named == Tryz.pinned.checked.prog.varsNamed 6)=true:=by kernel_rfl
theorem ZgK:joinedFacts Tryz.pinned.checked.prog 6 f6 S0 R0=true:=by
 unfold joinedFacts
 rw [ZiM,ZiN,ZiO,ZiP]
 kernel_rfl
theorem Zhz:f6.isInstance Tryz.pinned.checked.prog R0.origin R0.targs:=of_decide_eq_true (by kernel_rfl)
theorem ZhA:f6.isWrapper Tryz.pinned.checked.prog R0.wrapper R0.mainSum:=by unfold Func.isWrapper; rw [if_neg (by decide +kernel)]; exact ⟨rfl,rfl⟩
theorem Zik:Rows.SurdArithmeticSaid :=
 OpenClaim.holds_of_wide 6 f6 rfl rfl rfl rfl rfl rfl rfl ⟨rfl,rfl,rfl,rfl,rfl⟩ rfl rfl rfl rfl rfl ZeF func6 ZgK Zhz ZhA
  (fun os started H enc _=>ZgJ os started H enc)
theorem ZiQ:R0.wfByText (OpenSpec.ofChange S0)=true:=by kernel_rfl
theorem ZhB:Tryz.pinned.checked.prog.mainIs=some (K0.stood.harness.1,K0.stood.harness.2.toList):=by kernel_rfl
theorem Zho:true=Tryz.pinned.checked.prog.looks []:=by kernel_rfl
theorem ZhC:false=R0.goesBy Tryz.pinned.checked.prog:=by kernel_rfl
theorem Zhp:([23,23].all fun u => !prog.wantsStandIn u)=true:=by kernel_rfl
theorem surdArithmetic_card:Rows.SurdArithmeticCardSaid :=
 Claim7.holds_tied_plain_at .later [] [.data, .data, .data] true K0.stood.harness true
  Zik (fun _ h=>by cases h) ZiQ (fun _ h=>by cases h) surdArithmetic_row_tie rfl ⟨rfl,rfl⟩ ZhB rfl
  (fun f fn hf hfn=>by
   obtain rfl:f=6:=Option.some.inj ((ZeF).symm.trans hf) |>.symm
   obtain rfl:fn=f6:=(Option.some.inj (func6.symm.trans hfn)).symm
   exact ⟨Zho,fun j t ht=>by
    rw [params6] at ht
    have hm:t ∈ [23,23]:=by simpa using Array.mem_of_getElem? ht
    exact (show prog.wantsStandIn t=false by simpa using List.all_eq_true.1 Zhp t hm)⟩)
  ZhC
end Go.Proofs.YtbgkofgoeoiciaaGreatDoor
