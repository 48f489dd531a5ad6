/-
 My texts MsP put together.
-/
import Derived.Test.YthlipnahcbcjkaaGreatDoorQ09
import Derived.Test.YthlipnahcbcjkaaGreatDoorQ22
import Derived.Test.YthlipnahcbcjkaaGreatDoorQ23
import Derived.Test.YthlipnahcbcjkaaGreatDoorTie
import Derived.Test.YthlipnahcbcjkaaGreatDoorCards
import Derived.SevenTiedAt
import Derived.ChangeOld
import Derived.Below
set_option maxRecDepth 100000
namespace Go.Proofs.YthlipnahcbcjkaaGreatDoor
open Go.ChangeShapes Go.WideShapes Go.ChangeAt Go.RowKit
open Go.ChangeMaps (open_string shut_string)
theorem Zdb:laidOutB Tryz.prog=true:=by kernel_rfl
theorem Zfl (os:Os) (started:os.Started) (H:Type) (enc:TypeId × Value→H) :
 ReturnsInHanded {} Tryz.checked os 3 .any (fun w args=>(Rows.modularSolutionSpec.pre enc Tryz.prog Tryz.f3 [] false w args∧laidMetH Tryz.prog Zh9 w)∧sizedMet enc Tryz.prog Tryz.f3 (OpenSpec.ofChange Rows.modularSolutionSpec) false w args)
  (Rows.modularSolutionSpec.post enc Tryz.prog Tryz.f3 false true false false):=by
 refine returnsInHanded_of_change_and (C:=Tryz.checked) (X:=fun w _=>laidMetH Tryz.prog Zh9 w) (fun _ _ _ hh h=>h.of_heap hh) own started (by kernel_rfl) Tryz.func3
  (ChangeSpec.witness_shaped (enc:=enc) (C:=Tryz.checked) (os:=os) (X:=fun w _=>laidMetH Tryz.prog Zh9 w) false (World.doorLaid Tryz.prog 400 os) #[.slice none 0 0, .slice none 0 0, .int .i64 0] 8 rfl (World.shaped_of_RefB (by kernel_rfl) (by kernel_rfl)) (by kernel_rfl) (by kernel_rfl) (by kernel_rfl) (Zm7 os _)) ?_
 intro W base args ds gs before hval0 hW _ _ hL _
 have hval:∀ (j:Nat) t v,Tryz.f3.params[j]? = some t→args[j]? = some v→Value.okWide Tryz.prog W .any base t v:=hval0
 have hW':=hW
 obtain ⟨p,q,hA0,hV,rfl,hfz,hnd⟩:=hW
 have hA:DataW.TrodAll enc Tryz.prog W 0 (fun _=>true) true Tryz.f3.params.toList args.toList ds p:=hA0
 rw [Tryz.params3] at hA hval
 obtain ⟨v0,vs0,d0,ds0,p0,q0,hargs,rfl,rfl,h0,r0⟩:=trodAll_cons hA
 obtain ⟨v1,vs1,d1,ds1,p1,q1,rfl,rfl,rfl,h1,r1⟩:=trodAll_cons r0
 obtain ⟨v2,vs2,d2,ds2,p2,q2,rfl,rfl,rfl,h2,r2⟩:=trodAll_cons r1
 obtain ⟨rfl,rfl,rfl⟩:=trodAll_nil r2
 obtain rfl:args=#[v0,v1,v2]:=by cases args; simp_all
 obtain ⟨rfl,rfl⟩:=trodVars_none hV
 obtain ⟨a0,len0,cap0,rfl⟩:=okWide_slice Tryz.underlying22 (hval 0 22 v0 rfl rfl)
 have k0:=h0
 have lt0:∀ x ∈ p0,x.block < W.heap.size:=by obtain ⟨m,hm⟩:=k0; exact DataW.trod_lt m _ _ _ hm
 obtain ⟨R0,C0,Z0,w0⟩:∃ R C Z,ArgI W a0 len0 R C Z:=by obtain ⟨fuel,hf⟩:=h0; exact ZnQ hf
 obtain ⟨a1,len1,cap1,rfl⟩:=okWide_slice Tryz.underlying23 (hval 1 23 v1 rfl rfl)
 have k1:=h1
 have lt1:∀ x ∈ p1,x.block < W.heap.size:=by obtain ⟨m,hm⟩:=k1; exact DataW.trod_lt m _ _ _ hm
 obtain ⟨z1,w1⟩:∃ zs,ZjO .i64 W a1 len1 cap1 zs:=by
  obtain ⟨fuel,hf⟩:=h1
  rcases open_ints Tryz.underlying23 Tryz.underlying3 (by kernel_rfl) hf with ⟨hcs,_⟩ | ⟨x,l,c,zs,hcs,_,hl,hm,hz,_,hcell,hwz⟩
  ·simp [Value.cells] at hcs
   obtain ⟨rfl,rfl,rfl⟩:=hcs
   exact ⟨[], .inl ⟨rfl,rfl,rfl,rfl⟩⟩
  ·simp [Value.cells] at hcs
   obtain ⟨rfl,rfl,rfl⟩:=hcs
   exact ⟨zs, .inr ⟨_,rfl,hl,hm,by simpa using hz,hcell,hwz⟩⟩
 obtain ⟨a2,rfl,rfl,rfl,w2⟩:=open_int Tryz.underlying3 (hval 2 3 v2 rfl rfl) h2
 clear hA0 hval0
 simp only [List.append_nil] at hW'
 obtain ⟨e11,e12,e13,e14,e15⟩:=w1.parts
 refine (Zgm a0 len0 cap0 R0 C0 Z0 a1 len1 cap1 (z1.take len1) a2 W (ZjZ hL) w0 e12 e11 e13).mono fun e W' ⟨he,Q⟩=>?_
 subst he
 have bel:=Fr.toBelow Q
 exact ⟨_,rfl,_,_,_,[],_,[],hW',trodAll_mk1 (shut_bool Tryz.underlying4 _),(trodAll_cons_mk (Below.trod Zdb (by kernel_rfl) (of_decide_eq_true (by kernel_rfl)) k0 bel lt0) (trodAll_cons_mk (Below.trod Zdb (by kernel_rfl) (of_decide_eq_true (by kernel_rfl)) k1 bel lt1) (trodAll_cons_mk (shut_int Tryz.underlying3 w2) trodAll_mk0))),rfl,bel.frame _,fun h=>by cases h⟩
theorem ZdC : Tryz.prog.funcNamed "sosopt/sosoptlaw02.ModularSolution" = some 3 := by kernel_rfl
theorem ZgS:(Rows.modularSolutionRow.inPlace == Tryz.pinned.checked.prog.inPlace 3)=true:=by kernel_rfl
theorem ZgT:(Rows.modularSolutionRow.unfollowed == Tryz.pinned.checked.prog.unfollowed 3)=true:=by kernel_rfl
theorem ZgU:(Rows.modularSolutionRow.recurses == Tryz.pinned.checked.prog.recurses 3)=true:=by kernel_rfl
theorem ZgV:(Rows.modularSolutionRow.named == Tryz.pinned.checked.prog.varsNamed 3)=true:=by kernel_rfl
theorem Zfm:joinedFacts Tryz.pinned.checked.prog 3 Tryz.f3 Rows.modularSolutionSpec Rows.modularSolutionRow=true:=by
 unfold joinedFacts
 rw [ZgS,ZgT,ZgU,ZgV]
 kernel_rfl
theorem Zgc:Tryz.f3.isInstance Tryz.pinned.checked.prog Rows.modularSolutionRow.origin Rows.modularSolutionRow.targs:=of_decide_eq_true (by kernel_rfl)
theorem Zgd:Tryz.f3.isWrapper Tryz.pinned.checked.prog Rows.modularSolutionRow.wrapper Rows.modularSolutionRow.mainSum:=by unfold Func.isWrapper; first | (rw [if_pos (by decide +kernel)]; kernel_rfl) | (rw [if_neg (by decide +kernel)]; exact ⟨rfl,rfl⟩)
theorem Zgn:Rows.ModularSolutionSaid :=
 OpenClaim.holds_of_wide 3 Tryz.f3 rfl rfl rfl rfl rfl rfl rfl ⟨rfl,rfl,rfl,rfl,rfl⟩ rfl rfl rfl rfl rfl ZdC Tryz.func3 Zfm Zgc Zgd
  (fun os started H enc _=>Zfl os started H enc)
theorem ZgW:Rows.modularSolutionRow.wfByText (OpenSpec.ofChange Rows.modularSolutionSpec)=true:=by kernel_rfl
theorem Zge:Tryz.pinned.checked.prog.mainIs=some (Rows.modularSolutionCard.stood.harness.1,Rows.modularSolutionCard.stood.harness.2.toList):=by kernel_rfl
theorem ZfI:true=Tryz.pinned.checked.prog.looks []:=by kernel_rfl
theorem Zgf:false=Rows.modularSolutionRow.goesBy Tryz.pinned.checked.prog:=by kernel_rfl
theorem ZfJ:([22,23,3].all fun u => !Tryz.prog.wantsStandIn u)=true:=by kernel_rfl
theorem modularSolution_card:Rows.ModularSolutionCardSaid :=
 Claim7.holds_tied_plain_at .later [] [.data, .data, .data] true Rows.modularSolutionCard.stood.harness true
  Zgn (fun _ h=>by cases h) ZgW (fun _ h=>by cases h) modularSolution_row_tie rfl ⟨rfl,rfl⟩ Zge rfl
  (fun f fn hf hfn=>by
   obtain rfl:f=3:=Option.some.inj ((ZdC).symm.trans hf) |>.symm
   obtain rfl:fn=Tryz.f3:=(Option.some.inj (Tryz.func3.symm.trans hfn)).symm
   exact ⟨ZfI,fun j t ht=>by
    rw [Tryz.params3] at ht
    have hm:t ∈ [22,23,3]:=by simpa using Array.mem_of_getElem? ht
    exact (show Tryz.prog.wantsStandIn t=false by simpa using List.all_eq_true.1 ZfJ t hm)⟩)
  Zgf
#print axioms modularSolution_card
end Go.Proofs.YthlipnahcbcjkaaGreatDoor
