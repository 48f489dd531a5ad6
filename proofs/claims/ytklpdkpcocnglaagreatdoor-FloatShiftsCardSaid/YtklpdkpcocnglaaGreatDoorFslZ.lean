/-
 My texts FslP put together.
-/
import Derived.Test.YtklpdkpcocnglaaGreatDoorY09
import Derived.Test.YtklpdkpcocnglaaGreatDoorY10
import Derived.Test.YtklpdkpcocnglaaGreatDoorY19
import Derived.Test.YtklpdkpcocnglaaGreatDoorTie
import Derived.Test.YtklpdkpcocnglaaGreatDoorCards
import Derived.SevenTiedAt
import Derived.ChangeOld
import Derived.Below
set_option maxRecDepth 100000
namespace Go.Proofs.YtklpdkpcocnglaaGreatDoor
open Go.ChangeShapes Go.WideShapes Go.ChangeAt Go.RowKit
open Go.ChangeMaps (open_string shut_string)
theorem Zqn:laidOutB Tryz.prog=true:=by kernel_rfl
theorem Ziz (os:Os) (started:os.Started) (H:Type) (enc:TypeId × Value→H) :
 ReturnsInHanded {} Tryz.checked os 5 .any (fun w args=>(Rows.floatShiftsSpec.pre enc Tryz.prog Tryz.f5 [] false w args∧laidMetH Tryz.prog ZeE w)∧sizedMet enc Tryz.prog Tryz.f5 (OpenSpec.ofChange Rows.floatShiftsSpec) false w args)
  (Rows.floatShiftsSpec.post enc Tryz.prog Tryz.f5 false true false false):=by
 refine returnsInHanded_of_change_and (C:=Tryz.checked) (X:=fun w _=>laidMetH Tryz.prog ZeE w) (fun _ _ _ hh h=>h.of_heap hh) own started (by kernel_rfl) Tryz.func5
  (ChangeSpec.witness_shaped (enc:=enc) (C:=Tryz.checked) (os:=os) (X:=fun w _=>laidMetH Tryz.prog ZeE w) false (World.doorLaid Tryz.prog 400 os) #[.agg #[.string ⟨#[]⟩, .int .i64 0], .int .i64 0] 8 rfl (World.shaped_of_RefB (by kernel_rfl) (by kernel_rfl)) (by kernel_rfl) (by kernel_rfl) (by kernel_rfl) (ZhX os _)) ?_
 intro W base args ds gs before hval0 hW _ _ hL _
 have hval:∀ (j:Nat) t v,Tryz.f5.params[j]? = some t→args[j]? = some v→Value.okWide Tryz.prog W .any base t v:=hval0
 have hW':=hW
 obtain ⟨p,q,hA0,hV,rfl,hfz,hnd⟩:=hW
 have hA:DataW.TrodAll enc Tryz.prog W 0 (fun _=>true) true Tryz.f5.params.toList args.toList ds p:=hA0
 rw [Tryz.params5] at hA hval
 obtain ⟨v0,vs0,d0,ds0,p0,q0,hargs,rfl,rfl,h0,r0⟩:=trodAll_cons hA
 obtain ⟨v1,vs1,d1,ds1,p1,q1,rfl,rfl,rfl,h1,r1⟩:=trodAll_cons r0
 obtain ⟨rfl,rfl,rfl⟩:=trodAll_nil r1
 obtain rfl:args=#[v0,v1]:=by cases args; simp_all
 obtain ⟨rfl,rfl⟩:=trodVars_none hV
 obtain ⟨a0,b0,rfl,rfl,rfl,w0⟩:=Zft (hval 0 24 v0 rfl rfl) h0
 obtain ⟨a1,rfl,rfl,rfl,w1⟩:=open_int Tryz.underlying3 (hval 1 3 v1 rfl rfl) h1
 clear hA0 hval0
 simp only [List.append_nil] at hW'
 refine (ZkM a0 b0 a1 W (Zfp hL)).mono fun e W' ⟨he,Q⟩=>?_
 subst he
 have bel:=Fr.toBelow Q
 exact ⟨_,rfl,_,_,_,[],_,[],hW',trodAll_mk1 (shut_bool Tryz.underlying4 _),(trodAll_cons_mk (Zfu w0) (trodAll_cons_mk (shut_int Tryz.underlying3 w1) trodAll_mk0)),(by first | rfl | simp),bel.frame _,fun h=>by cases h⟩
theorem Zfs : Tryz.prog.funcNamed "sosopt/sosoptlaw23.FloatShifts" = some 5 := by kernel_rfl
theorem Zlp:(Rows.floatShiftsRow.inPlace == Tryz.pinned.checked.prog.inPlace 5)=true:=by kernel_rfl
theorem Zlq:(Rows.floatShiftsRow.unfollowed == Tryz.pinned.checked.prog.unfollowed 5)=true:=by kernel_rfl
theorem Zlr:(Rows.floatShiftsRow.recurses == Tryz.pinned.checked.prog.recurses 5)=true:=by kernel_rfl
theorem Zls:(Rows.floatShiftsRow.named == Tryz.pinned.checked.prog.varsNamed 5)=true:=by kernel_rfl
theorem ZiA:joinedFacts Tryz.pinned.checked.prog 5 Tryz.f5 Rows.floatShiftsSpec Rows.floatShiftsRow=true:=by
 unfold joinedFacts
 rw [Zlp,Zlq,Zlr,Zls]
 kernel_rfl
theorem ZjP:Tryz.f5.isInstance Tryz.pinned.checked.prog Rows.floatShiftsRow.origin Rows.floatShiftsRow.targs:=of_decide_eq_true (by kernel_rfl)
theorem ZjQ:Tryz.f5.isWrapper Tryz.pinned.checked.prog Rows.floatShiftsRow.wrapper Rows.floatShiftsRow.mainSum:=by unfold Func.isWrapper; first | (rw [if_pos (by decide +kernel)]; kernel_rfl) | (rw [if_neg (by decide +kernel)]; exact ⟨rfl,rfl⟩)
theorem ZkN:Rows.FloatShiftsSaid :=
 OpenClaim.holds_of_wide 5 Tryz.f5 rfl rfl rfl rfl rfl rfl rfl ⟨rfl,rfl,rfl,rfl,rfl⟩ rfl rfl rfl rfl rfl Zfs Tryz.func5 ZiA ZjP ZjQ
  (fun os started H enc _=>Ziz os started H enc)
theorem Zlt:Rows.floatShiftsRow.wfByText (OpenSpec.ofChange Rows.floatShiftsSpec)=true:=by kernel_rfl
theorem ZjR:Tryz.pinned.checked.prog.mainIs=some (Rows.floatShiftsCard.stood.harness.1,Rows.floatShiftsCard.stood.harness.2.toList):=by kernel_rfl
theorem Zi5:true=Tryz.pinned.checked.prog.looks []:=by kernel_rfl
theorem ZjS:false=Rows.floatShiftsRow.goesBy Tryz.pinned.checked.prog:=by kernel_rfl
theorem Zi6:([24,3].all fun u => !Tryz.prog.wantsStandIn u)=true:=by kernel_rfl
theorem floatShifts_card:Rows.FloatShiftsCardSaid :=
 Claim7.holds_tied_plain_at .later [] [.data, .data, .data, .sentinel, .sentinel] true Rows.floatShiftsCard.stood.harness true
  ZkN (fun _ h=>by cases h) Zlt (fun _ h=>by cases h) floatShifts_row_tie rfl ⟨rfl,rfl⟩ ZjR rfl
  (fun f fn hf hfn=>by
   obtain rfl:f=5:=Option.some.inj ((Zfs).symm.trans hf) |>.symm
   obtain rfl:fn=Tryz.f5:=(Option.some.inj (Tryz.func5.symm.trans hfn)).symm
   exact ⟨Zi5,fun j t ht=>by
    rw [Tryz.params5] at ht
    have hm:t ∈ [24,3]:=by simpa using Array.mem_of_getElem? ht
    exact (show Tryz.prog.wantsStandIn t=false by simpa using List.all_eq_true.1 Zi6 t hm)⟩)
  ZjS
#print axioms floatShifts_card
end Go.Proofs.YtklpdkpcocnglaaGreatDoor
