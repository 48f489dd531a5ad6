/-
 My texts FcpP put together.
-/
import Derived.Test.YtklpdkpcocnglaaGreatDoorW09
import Derived.Test.YtklpdkpcocnglaaGreatDoorW12
import Derived.Test.YtklpdkpcocnglaaGreatDoorW23
import Derived.Test.YtklpdkpcocnglaaGreatDoorTie
import Derived.Test.YtklpdkpcocnglaaGreatDoorCards
import Derived.SevenTiedAt
import Derived.ChangeOld
import Derived.Below
set_option maxRecDepth 100000
set_option maxHeartbeats 8000000
namespace Go.Proofs.YtklpdkpcocnglaaGreatDoor
open Go.ChangeShapes Go.WideShapes Go.ChangeAt Go.RowKit
open Go.ChangeMaps (open_string shut_string)
theorem Zcf:laidOutB Tryz.prog=true:=by kernel_rfl
theorem ZcQ (os:Os) (started:os.Started) (H:Type) (enc:TypeId × Value→H) :
 ReturnsInHanded {} Tryz.checked os 11 .any (fun w args=>(Rows.floatComputesSpec.pre enc Tryz.prog Tryz.f11 [] false w args∧laidMetH Tryz.prog Zfd w)∧sizedMet enc Tryz.prog Tryz.f11 (OpenSpec.ofChange Rows.floatComputesSpec) false w args)
  (Rows.floatComputesSpec.post enc Tryz.prog Tryz.f11 false true false false):=by
 refine returnsInHanded_of_change_and (C:=Tryz.checked) (X:=fun w _=>laidMetH Tryz.prog Zfd w) (fun _ _ _ hh h=>h.of_heap hh) own started (by kernel_rfl) Tryz.func11
  (ChangeSpec.witness_shaped (enc:=enc) (C:=Tryz.checked) (os:=os) (X:=fun w _=>laidMetH Tryz.prog Zfd w) false (World.doorLaid Tryz.prog 400 os) #[.slice none 0 0, .int .i64 0] 8 rfl (World.shaped_of_RefB (by kernel_rfl) (by kernel_rfl)) (by kernel_rfl) (by kernel_rfl) (by kernel_rfl) (ZlZ os _)) ?_
 intro W base args ds gs before hval0 hW _ _ hL _
 have hval:∀ (j:Nat) t v,Tryz.f11.params[j]? = some t→args[j]? = some v→Value.okWide Tryz.prog W .any base t v:=hval0
 have hW':=hW
 obtain ⟨p,q,hA0,hV,rfl,hfz,hnd⟩:=hW
 have hA:DataW.TrodAll enc Tryz.prog W 0 (fun _=>true) true Tryz.f11.params.toList args.toList ds p:=hA0
 rw [Tryz.params11] at hA hval
 obtain ⟨v0,vs0,d0,ds0,p0,q0,hargs,rfl,rfl,h0,r0⟩:=trodAll_cons hA
 obtain ⟨v1,vs1,d1,ds1,p1,q1,rfl,rfl,rfl,h1,r1⟩:=trodAll_cons r0
 obtain ⟨rfl,rfl,rfl⟩:=trodAll_nil r1
 obtain rfl:args=#[v0,v1]:=by cases args; simp_all
 obtain ⟨rfl,rfl⟩:=trodVars_none hV
 obtain ⟨a0,len0,cap0,rfl⟩:=okWide_slice Tryz.underlying66 (hval 0 66 v0 rfl rfl)
 have k0:=h0
 have lt0:∀ x ∈ p0,x.block < W.heap.size:=by obtain ⟨m,hm⟩:=k0; exact DataW.trod_lt m _ _ _ hm
 obtain ⟨z0,w0⟩:∃ zs,ZkQ .i64 W a0 len0 cap0 zs:=by
  obtain ⟨fuel,hf⟩:=h0
  rcases open_ints Tryz.underlying66 Tryz.underlying3 (by kernel_rfl) hf with ⟨hcs,_⟩ | ⟨x,l,c,zs,hcs,_,hl,hm,hz,_,hcell,hwz⟩
  ·simp [Value.cells] at hcs
   obtain ⟨rfl,rfl,rfl⟩:=hcs
   exact ⟨[], .inl ⟨rfl,rfl,rfl,rfl⟩⟩
  ·simp [Value.cells] at hcs
   obtain ⟨rfl,rfl,rfl⟩:=hcs
   exact ⟨zs, .inr ⟨_,rfl,hl,hm,by simpa using hz,hcell,hwz⟩⟩
 obtain ⟨a1,rfl,rfl,rfl,w1⟩:=open_int Tryz.underlying3 (hval 1 3 v1 rfl rfl) h1
 clear hA0 hval0
 simp only [List.append_nil] at hW'
 obtain ⟨e01,e02,e03,e04,e05⟩:=w0.parts
 refine (Zek a0 len0 cap0 _ a1 W (Zhf hL) e01 e02 e04).mono fun e W' ⟨he,Q⟩=>?_
 subst he
 have bel:=Fr.toBelow Q
 exact ⟨_,rfl,_,_,_,[],_,[],hW',trodAll_mk1 (shut_bool Tryz.underlying4 _),(trodAll_cons_mk (Below.trod Zcf (by kernel_rfl) (of_decide_eq_true (by kernel_rfl)) k0 bel lt0) (trodAll_cons_mk (shut_int Tryz.underlying3 w1) trodAll_mk0)),rfl,bel.frame _,fun h=>by cases h⟩
theorem aQ : Tryz.prog.funcNamed "sosopt/sosoptlaw23.FloatComputes" = some 11 := by kernel_rfl
theorem Ze1:(Rows.floatComputesRow.inPlace == Tryz.pinned.checked.prog.inPlace 11)=true:=by kernel_rfl
theorem Ze2:(Rows.floatComputesRow.unfollowed == Tryz.pinned.checked.prog.unfollowed 11)=true:=by kernel_rfl
theorem Ze3:(Rows.floatComputesRow.recurses == Tryz.pinned.checked.prog.recurses 11)=true:=by kernel_rfl
theorem Ze4:(Rows.floatComputesRow.named == Tryz.pinned.checked.prog.varsNamed 11)=true:=by kernel_rfl
theorem ZcR:joinedFacts Tryz.pinned.checked.prog 11 Tryz.f11 Rows.floatComputesSpec Rows.floatComputesRow=true:=by
 unfold joinedFacts
 rw [Ze1,Ze2,Ze3,Ze4]
 kernel_rfl
theorem ZdP:Tryz.f11.isInstance Tryz.pinned.checked.prog Rows.floatComputesRow.origin Rows.floatComputesRow.targs:=of_decide_eq_true (by kernel_rfl)
theorem ZdQ:Tryz.f11.isWrapper Tryz.pinned.checked.prog Rows.floatComputesRow.wrapper Rows.floatComputesRow.mainSum:=by unfold Func.isWrapper; first | (rw [if_pos (by decide +kernel)]; kernel_rfl) | (rw [if_neg (by decide +kernel)]; exact ⟨rfl,rfl⟩)
theorem Zel:Rows.FloatComputesSaid :=
 OpenClaim.holds_of_wide 11 Tryz.f11 rfl rfl rfl rfl rfl rfl rfl ⟨rfl,rfl,rfl,rfl,rfl⟩ rfl rfl rfl rfl rfl aQ Tryz.func11 ZcR ZdP ZdQ
  (fun os started H enc _=>ZcQ os started H enc)
theorem Ze5:Rows.floatComputesRow.wfByText (OpenSpec.ofChange Rows.floatComputesSpec)=true:=by kernel_rfl
theorem ZdR:Tryz.pinned.checked.prog.mainIs=some (Rows.floatComputesCard.stood.harness.1,Rows.floatComputesCard.stood.harness.2.toList):=by kernel_rfl
theorem ZcZ:true=Tryz.pinned.checked.prog.looks []:=by kernel_rfl
theorem ZdS:false=Rows.floatComputesRow.goesBy Tryz.pinned.checked.prog:=by kernel_rfl
theorem Zc0:([66,3].all fun u => !Tryz.prog.wantsStandIn u)=true:=by kernel_rfl
theorem floatComputes_card:Rows.FloatComputesCardSaid :=
 Claim7.holds_tied_plain_at .later [] [.data, .data, .data, .sentinel, .sentinel] true Rows.floatComputesCard.stood.harness true
  Zel (fun _ h=>by cases h) Ze5 (fun _ h=>by cases h) floatComputes_row_tie rfl ⟨rfl,rfl⟩ ZdR rfl
  (fun f fn hf hfn=>by
   obtain rfl:f=11:=Option.some.inj ((aQ).symm.trans hf) |>.symm
   obtain rfl:fn=Tryz.f11:=(Option.some.inj (Tryz.func11.symm.trans hfn)).symm
   exact ⟨ZcZ,fun j t ht=>by
    rw [Tryz.params11] at ht
    have hm:t ∈ [66,3]:=by simpa using Array.mem_of_getElem? ht
    exact (show Tryz.prog.wantsStandIn t=false by simpa using List.all_eq_true.1 Zc0 t hm)⟩)
  ZdS
#print axioms floatComputes_card
end Go.Proofs.YtklpdkpcocnglaaGreatDoor
