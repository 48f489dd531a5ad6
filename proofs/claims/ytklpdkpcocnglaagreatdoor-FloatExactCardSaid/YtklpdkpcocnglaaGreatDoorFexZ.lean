/-
 My texts FexP put together.
-/
import Derived.Test.YtklpdkpcocnglaaGreatDoorX09
import Derived.Test.YtklpdkpcocnglaaGreatDoorX12
import Derived.Test.YtklpdkpcocnglaaGreatDoorX27
import Derived.Test.YtklpdkpcocnglaaGreatDoorTie
import Derived.Test.YtklpdkpcocnglaaGreatDoorCards
import Derived.SevenTiedAt
import Derived.ChangeOld
import Derived.Below
set_option maxRecDepth 100000
set_option maxHeartbeats 8000000
namespace Go.Proofs.YtklpdkpcocnglaaGreatDoor
open Go.ChangeShapes Go.WideShapes Go.ChangeAt Go.RowKit
open Go.ChangeMaps (open_string shut_string)
theorem ZeB:laidOutB Tryz.prog=true:=by kernel_rfl
theorem Ze5 (os:Os) (started:os.Started) (H:Type) (enc:TypeId × Value→H) :
 ReturnsInHanded {} Tryz.checked os 13 .any (fun w args=>(Rows.floatExactSpec.pre enc Tryz.prog Tryz.f13 [] false w args∧laidMetH Tryz.prog dR w)∧sizedMet enc Tryz.prog Tryz.f13 (OpenSpec.ofChange Rows.floatExactSpec) false w args)
  (Rows.floatExactSpec.post enc Tryz.prog Tryz.f13 false true false false):=by
 refine returnsInHanded_of_change_and (C:=Tryz.checked) (X:=fun w _=>laidMetH Tryz.prog dR w) (fun _ _ _ hh h=>h.of_heap hh) own started (by kernel_rfl) Tryz.func13
  (ChangeSpec.witness_shaped (enc:=enc) (C:=Tryz.checked) (os:=os) (X:=fun w _=>laidMetH Tryz.prog dR w) false (World.doorLaid Tryz.prog 400 os) #[.slice none 0 0, .int .i64 0] 8 rfl (World.shaped_of_RefB (by kernel_rfl) (by kernel_rfl)) (by kernel_rfl) (by kernel_rfl) (by kernel_rfl) (Zb4 os _)) ?_
 intro W base args ds gs before hval0 hW _ _ hL _
 have hval:∀ (j:Nat) t v,Tryz.f13.params[j]? = some t→args[j]? = some v→Value.okWide Tryz.prog W .any base t v:=hval0
 have hW':=hW
 obtain ⟨p,q,hA0,hV,rfl,hfz,hnd⟩:=hW
 have hA:DataW.TrodAll enc Tryz.prog W 0 (fun _=>true) true Tryz.f13.params.toList args.toList ds p:=hA0
 rw [Tryz.params13] at hA hval
 obtain ⟨v0,vs0,d0,ds0,p0,q0,hargs,rfl,rfl,h0,r0⟩:=trodAll_cons hA
 obtain ⟨v1,vs1,d1,ds1,p1,q1,rfl,rfl,rfl,h1,r1⟩:=trodAll_cons r0
 obtain ⟨rfl,rfl,rfl⟩:=trodAll_nil r1
 obtain rfl:args=#[v0,v1]:=by cases args; simp_all
 obtain ⟨rfl,rfl⟩:=trodVars_none hV
 obtain ⟨a0,len0,cap0,rfl⟩:=okWide_slice Tryz.underlying66 (hval 0 66 v0 rfl rfl)
 have k0:=h0
 have lt0:∀ x ∈ p0,x.block < W.heap.size:=by obtain ⟨m,hm⟩:=k0; exact DataW.trod_lt m _ _ _ hm
 obtain ⟨z0,w0⟩:∃ zs,Zi0 .i64 W a0 len0 cap0 zs:=by
  obtain ⟨fuel,hf⟩:=h0
  rcases open_ints Tryz.underlying66 Tryz.underlying3 (by kernel_rfl) hf with ⟨hcs,_⟩ | ⟨x,l,c,zs,hcs,_,hl,hm,hz,_,hcell,hwz⟩
  ·simp [Value.cells] at hcs
   obtain ⟨rfl,rfl,rfl⟩:=hcs
   exact ⟨[], .inl ⟨rfl,rfl,rfl,rfl⟩⟩
  ·simp [Value.cells] at hcs
   obtain ⟨rfl,rfl,rfl⟩:=hcs
   exact ⟨zs, .inr ⟨_,rfl,hl,hm,by simpa using hz,hcell,hwz⟩⟩
 obtain ⟨a1,rfl,rfl,rfl,w1⟩:=open_int Tryz.underlying3 (hval 1 3 v1 rfl rfl) h1
 clear hA0 hval0
 simp only [List.append_nil] at hW'
 obtain ⟨e01,e02,e03,e04,e05⟩:=w0.parts
 refine (ZhK a0 len0 cap0 _ a1 W (bW hL) e01 e02 e04).mono fun e W' ⟨he,Q⟩=>?_
 subst he
 have bel:=Fr.toBelow Q
 exact ⟨_,rfl,_,_,_,[],_,[],hW',trodAll_mk1 (shut_bool Tryz.underlying4 _),(trodAll_cons_mk (Below.trod ZeB (by kernel_rfl) (of_decide_eq_true (by kernel_rfl)) k0 bel lt0) (trodAll_cons_mk (shut_int Tryz.underlying3 w1) trodAll_mk0)),rfl,bel.frame _,fun h=>by cases h⟩
theorem ZbY : Tryz.prog.funcNamed "sosopt/sosoptlaw23.FloatExact" = some 13 := by kernel_rfl
theorem ZiS:(Rows.floatExactRow.inPlace == Tryz.pinned.checked.prog.inPlace 13)=true:=by kernel_rfl
theorem ZiT:(Rows.floatExactRow.unfollowed == Tryz.pinned.checked.prog.unfollowed 13)=true:=by kernel_rfl
theorem ZiU:(Rows.floatExactRow.recurses == Tryz.pinned.checked.prog.recurses 13)=true:=by kernel_rfl
theorem ZiV:(Rows.floatExactRow.named == Tryz.pinned.checked.prog.varsNamed 13)=true:=by kernel_rfl
theorem Ze6:joinedFacts Tryz.pinned.checked.prog 13 Tryz.f13 Rows.floatExactSpec Rows.floatExactRow=true:=by
 unfold joinedFacts
 rw [ZiS,ZiT,ZiU,ZiV]
 kernel_rfl
theorem ZgZ:Tryz.f13.isInstance Tryz.pinned.checked.prog Rows.floatExactRow.origin Rows.floatExactRow.targs:=of_decide_eq_true (by kernel_rfl)
theorem Zg0:Tryz.f13.isWrapper Tryz.pinned.checked.prog Rows.floatExactRow.wrapper Rows.floatExactRow.mainSum:=by unfold Func.isWrapper; first | (rw [if_pos (by decide +kernel)]; kernel_rfl) | (rw [if_neg (by decide +kernel)]; exact ⟨rfl,rfl⟩)
theorem ZhL:Rows.FloatExactSaid :=
 OpenClaim.holds_of_wide 13 Tryz.f13 rfl rfl rfl rfl rfl rfl rfl ⟨rfl,rfl,rfl,rfl,rfl⟩ rfl rfl rfl rfl rfl ZbY Tryz.func13 Ze6 ZgZ Zg0
  (fun os started H enc _=>Ze5 os started H enc)
theorem ZiW:Rows.floatExactRow.wfByText (OpenSpec.ofChange Rows.floatExactSpec)=true:=by kernel_rfl
theorem Zg1:Tryz.pinned.checked.prog.mainIs=some (Rows.floatExactCard.stood.harness.1,Rows.floatExactCard.stood.harness.2.toList):=by kernel_rfl
theorem ZfV:true=Tryz.pinned.checked.prog.looks []:=by kernel_rfl
theorem Zg2:false=Rows.floatExactRow.goesBy Tryz.pinned.checked.prog:=by kernel_rfl
theorem ZfW:([66,3].all fun u => !Tryz.prog.wantsStandIn u)=true:=by kernel_rfl
theorem floatExact_card:Rows.FloatExactCardSaid :=
 Claim7.holds_tied_plain_at .later [] [.data, .data, .data, .sentinel, .sentinel] true Rows.floatExactCard.stood.harness true
  ZhL (fun _ h=>by cases h) ZiW (fun _ h=>by cases h) floatExact_row_tie rfl ⟨rfl,rfl⟩ Zg1 rfl
  (fun f fn hf hfn=>by
   obtain rfl:f=13:=Option.some.inj ((ZbY).symm.trans hf) |>.symm
   obtain rfl:fn=Tryz.f13:=(Option.some.inj (Tryz.func13.symm.trans hfn)).symm
   exact ⟨ZfV,fun j t ht=>by
    rw [Tryz.params13] at ht
    have hm:t ∈ [66,3]:=by simpa using Array.mem_of_getElem? ht
    exact (show Tryz.prog.wantsStandIn t=false by simpa using List.all_eq_true.1 ZfW t hm)⟩)
  Zg2
#print axioms floatExact_card
end Go.Proofs.YtklpdkpcocnglaaGreatDoor
