/-
  DenseFactors: DenseFactors: Cholesky's factor of a small positive definite matrix of whole numbers, times its transpose, lies within 4 (n + 1) units of 2^-bits of the matrix, is lower triangular and has a positive diagonal; the law returns true and its arguments read as before.
  Conditions: the listed tables of the library hold what the program's text lays there (the card ties them).
-/
import Derived.Test.YtmpffakfhcpjoaaGreatDoorF09
import Derived.Test.YtmpffakfhcpjoaaGreatDoorF16
import Derived.Test.YtmpffakfhcpjoaaGreatDoorF24
import Derived.Test.YtmpffakfhcpjoaaGreatDoorTie
import Derived.Test.YtmpffakfhcpjoaaGreatDoorCards
set_option maxRecDepth 100000
set_option maxHeartbeats 8000000
namespace Go.Proofs.YtmpffakfhcpjoaaGreatDoor
open Go.ChangeShapes Go.WideShapes Go.ChangeAt Go.RowKit
open Go.ChangeMaps (open_string shut_string)
theorem ZdM:laidOutB Tryz.prog=true:=by kernel_rfl
theorem ZdX (os:Os) (started:os.Started) (H:Type) (enc:TypeId × Value→H) :
 ReturnsInHanded {} Tryz.checked os 3 .any (fun w args=>(Rows.denseFactorsSpec.pre enc Tryz.prog Tryz.f3 [] false w args∧laidMetH Tryz.prog Zgf w)∧sizedMet enc Tryz.prog Tryz.f3 (OpenSpec.ofChange Rows.denseFactorsSpec) false w args)
  (Rows.denseFactorsSpec.post enc Tryz.prog Tryz.f3 false true false false):=by
 refine returnsInHanded_of_change_and (C:=Tryz.checked) (X:=fun w _=>laidMetH Tryz.prog Zgf w) (fun _ _ _ hh h=>h.of_heap hh) own started (by kernel_rfl) Tryz.func3
  (ChangeSpec.witness_shaped (enc:=enc) (C:=Tryz.checked) (os:=os) (X:=fun w _=>laidMetH Tryz.prog Zgf w) false (World.doorLaid Tryz.prog 400 os) #[.slice none 0 0, .int .i64 0] 8 rfl (World.shaped_of_RefB (by kernel_rfl) (by kernel_rfl)) (by kernel_rfl) (by kernel_rfl) (by kernel_rfl) (Zoa os _)) ?_
 intro W base args ds gs before hval0 hW _ _ hL _
 have hval:∀ (j:Nat) t v,Tryz.f3.params[j]? = some t→args[j]? = some v→Value.okWide Tryz.prog W .any base t v:=hval0
 have hW':=hW
 obtain ⟨p,q,hA0,hV,rfl,hfz,hnd⟩:=hW
 have hA:DataW.TrodAll enc Tryz.prog W 0 (fun _=>true) true Tryz.f3.params.toList args.toList ds p:=hA0
 rw [Tryz.params3] at hA hval
 obtain ⟨v0,vs0,d0,ds0,p0,q0,hargs,rfl,rfl,h0,r0⟩:=trodAll_cons hA
 obtain ⟨v1,vs1,d1,ds1,p1,q1,rfl,rfl,rfl,h1,r1⟩:=trodAll_cons r0
 obtain ⟨rfl,rfl,rfl⟩:=trodAll_nil r1
 obtain rfl:args=#[v0,v1]:=by cases args; simp_all
 obtain ⟨rfl,rfl⟩:=trodVars_none hV
 obtain ⟨a0,len0,cap0,rfl⟩:=okWide_slice Tryz.underlying22 (hval 0 22 v0 rfl rfl)
 have k0:=h0
 have lt0:∀ x ∈ p0,x.block < W.heap.size:=by obtain ⟨m,hm⟩:=k0; exact DataW.trod_lt m _ _ _ hm
 obtain ⟨z0,w0⟩:∃ zs,Zna .i64 W a0 len0 cap0 zs:=by
  obtain ⟨fuel,hf⟩:=h0
  rcases open_ints Tryz.underlying22 Tryz.underlying3 (by kernel_rfl) hf with ⟨hcs,_⟩ | ⟨x,l,c,zs,hcs,_,hl,hm,hz,_,hcell,hwz⟩
  ·simp [Value.cells] at hcs
   obtain ⟨rfl,rfl,rfl⟩:=hcs
   exact ⟨[], .inl ⟨rfl,rfl,rfl,rfl⟩⟩
  ·simp [Value.cells] at hcs
   obtain ⟨rfl,rfl,rfl⟩:=hcs
   exact ⟨zs, .inr ⟨_,rfl,hl,hm,by simpa using hz,hcell,hwz⟩⟩
 obtain ⟨a1,rfl,rfl,rfl,w1⟩:=open_int Tryz.underlying3 (hval 1 3 v1 rfl rfl) h1
 clear hA0 hval0
 simp only [List.append_nil] at hW'
 obtain ⟨e01,e02,e03,e04,e05⟩:=w0.parts
 refine (Zf6 a0 len0 cap0 _ a1 W (ZiP hL) e01 e02 e04).mono fun e W' ⟨he,Q⟩=>?_
 subst he
 have bel:=Fr.toBelow Q
 exact ⟨_,rfl,_,_,_,[],_,[],hW',trodAll_mk1 (shut_bool Tryz.underlying4 _),(trodAll_cons_mk (Below.trod ZdM (by kernel_rfl) (of_decide_eq_true (by kernel_rfl)) k0 bel lt0) (trodAll_cons_mk (shut_int Tryz.underlying3 w1) trodAll_mk0)),rfl,bel.frame _,fun h=>by cases h⟩
theorem Za8 : Tryz.prog.funcNamed "sosopt/sosoptlaw24.DenseFactors" = some 3 := by kernel_rfl
theorem Zhk:(Rows.denseFactorsRow.inPlace == Tryz.pinned.checked.prog.inPlace 3)=true:=by kernel_rfl
theorem Zhl:(Rows.denseFactorsRow.unfollowed == Tryz.pinned.checked.prog.unfollowed 3)=true:=by kernel_rfl
theorem Zhm:(Rows.denseFactorsRow.recurses == Tryz.pinned.checked.prog.recurses 3)=true:=by kernel_rfl
theorem Zhn:(Rows.denseFactorsRow.named == Tryz.pinned.checked.prog.varsNamed 3)=true:=by kernel_rfl
theorem ZdY:joinedFacts Tryz.pinned.checked.prog 3 Tryz.f3 Rows.denseFactorsSpec Rows.denseFactorsRow=true:=by
 unfold joinedFacts
 rw [Zhk,Zhl,Zhm,Zhn]
 kernel_rfl
theorem Zfj:Tryz.f3.isInstance Tryz.pinned.checked.prog Rows.denseFactorsRow.origin Rows.denseFactorsRow.targs:=of_decide_eq_true (by kernel_rfl)
theorem Zfk:Tryz.f3.isWrapper Tryz.pinned.checked.prog Rows.denseFactorsRow.wrapper Rows.denseFactorsRow.mainSum:=by unfold Func.isWrapper; first | (rw [if_pos (by decide +kernel)]; kernel_rfl) | (rw [if_neg (by decide +kernel)]; exact ⟨rfl,rfl⟩)
theorem Zf7:Rows.DenseFactorsSaid :=
 OpenClaim.holds_of_wide 3 Tryz.f3 rfl rfl rfl rfl rfl rfl rfl ⟨rfl,rfl,rfl,rfl,rfl⟩ rfl rfl rfl rfl rfl Za8 Tryz.func3 ZdY Zfj Zfk
  (fun os started H enc _=>ZdX os started H enc)
theorem Zho:Rows.denseFactorsRow.wfByText (OpenSpec.ofChange Rows.denseFactorsSpec)=true:=by kernel_rfl
theorem Zfl:Tryz.pinned.checked.prog.mainIs=some (Rows.denseFactorsCard.stood.harness.1,Rows.denseFactorsCard.stood.harness.2.toList):=by kernel_rfl
theorem ZeT:true=Tryz.pinned.checked.prog.looks []:=by kernel_rfl
theorem Zfm:false=Rows.denseFactorsRow.goesBy Tryz.pinned.checked.prog:=by kernel_rfl
theorem ZeU:([22,3].all fun u => !Tryz.prog.wantsStandIn u)=true:=by kernel_rfl
theorem denseFactors_card:Rows.DenseFactorsCardSaid :=
 Claim7.holds_tied_plain_at .later [] [.data, .data, .data, .sentinel, .sentinel] true Rows.denseFactorsCard.stood.harness true
  Zf7 (fun _ h=>by cases h) Zho (fun _ h=>by cases h) denseFactors_row_tie rfl ⟨rfl,rfl⟩ Zfl rfl
  (fun f fn hf hfn=>by
   obtain rfl:f=3:=Option.some.inj ((Za8).symm.trans hf) |>.symm
   obtain rfl:fn=Tryz.f3:=(Option.some.inj (Tryz.func3.symm.trans hfn)).symm
   exact ⟨ZeT,fun j t ht=>by
    rw [Tryz.params3] at ht
    have hm:t ∈ [22,3]:=by simpa using Array.mem_of_getElem? ht
    exact (show Tryz.prog.wantsStandIn t=false by simpa using List.all_eq_true.1 ZeU t hm)⟩)
  Zfm
#print axioms denseFactors_card
end Go.Proofs.YtmpffakfhcpjoaaGreatDoor
