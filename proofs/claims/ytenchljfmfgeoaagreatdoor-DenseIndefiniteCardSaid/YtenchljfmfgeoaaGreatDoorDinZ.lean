/-
  DenseIndefinite: DenseIndefinite: Cholesky and Inverse refuse matrices with a diagonal element that is not positive, with ErrSingular and the zero value; the law returns true and its arguments read as before.
  Conditions: the listed tables of the library hold what the program's text lays there (the card ties them).
-/
import Derived.Test.YtenchljfmfgeoaaGreatDoorW09
import Derived.Test.YtenchljfmfgeoaaGreatDoorW16
import Derived.Test.YtenchljfmfgeoaaGreatDoorW24
import Derived.Test.YtenchljfmfgeoaaGreatDoorTie
import Derived.Test.YtenchljfmfgeoaaGreatDoorCards
set_option maxRecDepth 100000
set_option maxHeartbeats 8000000
namespace Go.Proofs.YtenchljfmfgeoaaGreatDoor
open Go.ChangeShapes Go.WideShapes Go.ChangeAt Go.RowKit
open Go.ChangeMaps (open_string shut_string)
theorem Za9:laidOutB Tryz.prog=true:=by kernel_rfl
theorem ZbR (os:Os) (started:os.Started) (H:Type) (enc:TypeId × Value→H) :
 ReturnsInHanded {} Tryz.checked os 7 .any (fun w args=>(Rows.denseIndefiniteSpec.pre enc Tryz.prog Tryz.f7 [] false w args∧laidMetH Tryz.prog Zft w)∧sizedMet enc Tryz.prog Tryz.f7 (OpenSpec.ofChange Rows.denseIndefiniteSpec) false w args)
  (Rows.denseIndefiniteSpec.post enc Tryz.prog Tryz.f7 false true false false):=by
 refine returnsInHanded_of_change_and (C:=Tryz.checked) (X:=fun w _=>laidMetH Tryz.prog Zft w) (fun _ _ _ hh h=>h.of_heap hh) own started (by kernel_rfl) Tryz.func7
  (ChangeSpec.witness_shaped (enc:=enc) (C:=Tryz.checked) (os:=os) (X:=fun w _=>laidMetH Tryz.prog Zft w) false (World.doorLaid Tryz.prog 400 os) #[.slice none 0 0, .int .i64 0] 8 rfl (World.shaped_of_RefB (by kernel_rfl) (by kernel_rfl)) (by kernel_rfl) (by kernel_rfl) (by kernel_rfl) (Zml os _)) ?_
 intro W base args ds gs before hval0 hW _ _ hL _
 have hval:∀ (j:Nat) t v,Tryz.f7.params[j]? = some t→args[j]? = some v→Value.okWide Tryz.prog W .any base t v:=hval0
 have hW':=hW
 obtain ⟨p,q,hA0,hV,rfl,hfz,hnd⟩:=hW
 have hA:DataW.TrodAll enc Tryz.prog W 0 (fun _=>true) true Tryz.f7.params.toList args.toList ds p:=hA0
 rw [Tryz.params7] at hA hval
 obtain ⟨v0,vs0,d0,ds0,p0,q0,hargs,rfl,rfl,h0,r0⟩:=trodAll_cons hA
 obtain ⟨v1,vs1,d1,ds1,p1,q1,rfl,rfl,rfl,h1,r1⟩:=trodAll_cons r0
 obtain ⟨rfl,rfl,rfl⟩:=trodAll_nil r1
 obtain rfl:args=#[v0,v1]:=by cases args; simp_all
 obtain ⟨rfl,rfl⟩:=trodVars_none hV
 obtain ⟨a0,len0,cap0,rfl⟩:=okWide_slice Tryz.underlying50 (hval 0 50 v0 rfl rfl)
 have k0:=h0
 have lt0:∀ x ∈ p0,x.block < W.heap.size:=by obtain ⟨m,hm⟩:=k0; exact DataW.trod_lt m _ _ _ hm
 obtain ⟨z0,w0⟩:∃ zs,Zlq .i64 W a0 len0 cap0 zs:=by
  obtain ⟨fuel,hf⟩:=h0
  rcases open_ints Tryz.underlying50 Tryz.underlying3 (by kernel_rfl) hf with ⟨hcs,_⟩ | ⟨x,l,c,zs,hcs,_,hl,hm,hz,_,hcell,hwz⟩
  ·simp [Value.cells] at hcs
   obtain ⟨rfl,rfl,rfl⟩:=hcs
   exact ⟨[], .inl ⟨rfl,rfl,rfl,rfl⟩⟩
  ·simp [Value.cells] at hcs
   obtain ⟨rfl,rfl,rfl⟩:=hcs
   exact ⟨zs, .inr ⟨_,rfl,hl,hm,by simpa using hz,hcell,hwz⟩⟩
 obtain ⟨a1,rfl,rfl,rfl,w1⟩:=open_int Tryz.underlying3 (hval 1 3 v1 rfl rfl) h1
 clear hA0 hval0
 simp only [List.append_nil] at hW'
 obtain ⟨e01,e02,e03,e04,e05⟩:=w0.parts
 refine (Zdk a0 len0 cap0 _ a1 W (ZhC hL) e01 e02 e04).mono fun e W' ⟨he,Q⟩=>?_
 subst he
 have bel:=Fr.toBelow Q
 exact ⟨_,rfl,_,_,_,[],_,[],hW',trodAll_mk1 (shut_bool Tryz.underlying4 _),(trodAll_cons_mk (Below.trod Za9 (by kernel_rfl) (of_decide_eq_true (by kernel_rfl)) k0 bel lt0) (trodAll_cons_mk (shut_int Tryz.underlying3 w1) trodAll_mk0)),rfl,bel.frame _,fun h=>by cases h⟩
theorem bM : Tryz.prog.funcNamed "sosopt/sosoptlaw24.DenseIndefinite" = some 7 := by kernel_rfl
theorem Zed:(Rows.denseIndefiniteRow.inPlace == Tryz.pinned.checked.prog.inPlace 7)=true:=by kernel_rfl
theorem Zee:(Rows.denseIndefiniteRow.unfollowed == Tryz.pinned.checked.prog.unfollowed 7)=true:=by kernel_rfl
theorem Zef:(Rows.denseIndefiniteRow.recurses == Tryz.pinned.checked.prog.recurses 7)=true:=by kernel_rfl
theorem Zeg:(Rows.denseIndefiniteRow.named == Tryz.pinned.checked.prog.varsNamed 7)=true:=by kernel_rfl
theorem ZbS:joinedFacts Tryz.pinned.checked.prog 7 Tryz.f7 Rows.denseIndefiniteSpec Rows.denseIndefiniteRow=true:=by
 unfold joinedFacts
 rw [Zed,Zee,Zef,Zeg]
 kernel_rfl
theorem Zc7:Tryz.f7.isInstance Tryz.pinned.checked.prog Rows.denseIndefiniteRow.origin Rows.denseIndefiniteRow.targs:=of_decide_eq_true (by kernel_rfl)
theorem Zc8:Tryz.f7.isWrapper Tryz.pinned.checked.prog Rows.denseIndefiniteRow.wrapper Rows.denseIndefiniteRow.mainSum:=by unfold Func.isWrapper; first | (rw [if_pos (by decide +kernel)]; kernel_rfl) | (rw [if_neg (by decide +kernel)]; exact ⟨rfl,rfl⟩)
theorem Zdl:Rows.DenseIndefiniteSaid :=
 OpenClaim.holds_of_wide 7 Tryz.f7 rfl rfl rfl rfl rfl rfl rfl ⟨rfl,rfl,rfl,rfl,rfl⟩ rfl rfl rfl rfl rfl bM Tryz.func7 ZbS Zc7 Zc8
  (fun os started H enc _=>ZbR os started H enc)
theorem Zeh:Rows.denseIndefiniteRow.wfByText (OpenSpec.ofChange Rows.denseIndefiniteSpec)=true:=by kernel_rfl
theorem Zc9:Tryz.pinned.checked.prog.mainIs=some (Rows.denseIndefiniteCard.stood.harness.1,Rows.denseIndefiniteCard.stood.harness.2.toList):=by kernel_rfl
theorem Zcl:true=Tryz.pinned.checked.prog.looks []:=by kernel_rfl
theorem Zda:false=Rows.denseIndefiniteRow.goesBy Tryz.pinned.checked.prog:=by kernel_rfl
theorem Zcm:([50,3].all fun u => !Tryz.prog.wantsStandIn u)=true:=by kernel_rfl
theorem denseIndefinite_card:Rows.DenseIndefiniteCardSaid :=
 Claim7.holds_tied_plain_at .later [] [.data, .data, .data, .sentinel, .sentinel] true Rows.denseIndefiniteCard.stood.harness true
  Zdl (fun _ h=>by cases h) Zeh (fun _ h=>by cases h) denseIndefinite_row_tie rfl ⟨rfl,rfl⟩ Zc9 rfl
  (fun f fn hf hfn=>by
   obtain rfl:f=7:=Option.some.inj ((bM).symm.trans hf) |>.symm
   obtain rfl:fn=Tryz.f7:=(Option.some.inj (Tryz.func7.symm.trans hfn)).symm
   exact ⟨Zcl,fun j t ht=>by
    rw [Tryz.params7] at ht
    have hm:t ∈ [50,3]:=by simpa using Array.mem_of_getElem? ht
    exact (show Tryz.prog.wantsStandIn t=false by simpa using List.all_eq_true.1 Zcm t hm)⟩)
  Zda
#print axioms denseIndefinite_card
end Go.Proofs.YtenchljfmfgeoaaGreatDoor
