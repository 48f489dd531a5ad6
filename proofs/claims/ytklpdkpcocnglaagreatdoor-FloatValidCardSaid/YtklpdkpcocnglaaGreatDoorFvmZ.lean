/-
 My texts FvmP put together.
-/
import Derived.Test.YtklpdkpcocnglaaGreatDoorY09
import Derived.Test.YtklpdkpcocnglaaGreatDoorY10
import Derived.Test.YtklpdkpcocnglaaGreatDoorY23
import Derived.Test.YtklpdkpcocnglaaGreatDoorTie
import Derived.Test.YtklpdkpcocnglaaGreatDoorCards
import Derived.SevenTiedAt
import Derived.ChangeOld
import Derived.Below
set_option maxRecDepth 100000
namespace Go.Proofs.YtklpdkpcocnglaaGreatDoor
open Go.ChangeShapes Go.WideShapes Go.ChangeAt Go.RowKit
open Go.ChangeMaps (open_string shut_string)
theorem ZrK:laidOutB Tryz.prog=true:=by kernel_rfl
theorem Zi7 (os:Os) (started:os.Started) (H:Type) (enc:TypeId × Value→H) :
 ReturnsInHanded {} Tryz.checked os 6 .any (fun w args=>(Rows.floatValidSpec.pre enc Tryz.prog Tryz.f6 [] false w args∧laidMetH Tryz.prog ZeE w)∧sizedMet enc Tryz.prog Tryz.f6 (OpenSpec.ofChange Rows.floatValidSpec) false w args)
  (Rows.floatValidSpec.post enc Tryz.prog Tryz.f6 false true false false):=by
 refine returnsInHanded_of_change_and (C:=Tryz.checked) (X:=fun w _=>laidMetH Tryz.prog ZeE w) (fun _ _ _ hh h=>h.of_heap hh) own started (by kernel_rfl) Tryz.func6
  (ChangeSpec.witness_shaped (enc:=enc) (C:=Tryz.checked) (os:=os) (X:=fun w _=>laidMetH Tryz.prog ZeE w) false (World.doorLaid Tryz.prog 400 os) #[.agg #[.string ⟨#[]⟩, .int .i64 0]] 8 rfl (World.shaped_of_RefB (by kernel_rfl) (by kernel_rfl)) (by kernel_rfl) (by kernel_rfl) (by kernel_rfl) (ZhX os _)) ?_
 intro W base args ds gs before hval0 hW _ _ hL _
 have hval:∀ (j:Nat) t v,Tryz.f6.params[j]? = some t→args[j]? = some v→Value.okWide Tryz.prog W .any base t v:=hval0
 have hW':=hW
 obtain ⟨p,q,hA0,hV,rfl,hfz,hnd⟩:=hW
 have hA:DataW.TrodAll enc Tryz.prog W 0 (fun _=>true) true Tryz.f6.params.toList args.toList ds p:=hA0
 rw [Tryz.params6] at hA hval
 obtain ⟨v0,vs0,d0,ds0,p0,q0,hargs,rfl,rfl,h0,r0⟩:=trodAll_cons hA
 obtain ⟨rfl,rfl,rfl⟩:=trodAll_nil r0
 obtain rfl:args=#[v0]:=by cases args; simp_all
 obtain ⟨rfl,rfl⟩:=trodVars_none hV
 obtain ⟨a0,b0,rfl,rfl,rfl,w0⟩:=Zft (hval 0 24 v0 rfl rfl) h0
 clear hA0 hval0
 simp only [List.append_nil] at hW'
 refine (Zlu a0 b0 W (Zfp hL)).mono fun e W' ⟨he,Q⟩=>?_
 subst he
 have bel:=Fr.toBelow Q
 exact ⟨_,rfl,_,_,_,[],_,[],hW',trodAll_mk1 (shut_bool Tryz.underlying4 _),(trodAll_cons_mk (Zfu w0) trodAll_mk0),(by first | rfl | simp),bel.frame _,fun h=>by cases h⟩
theorem Zf9 : Tryz.prog.funcNamed "sosopt/sosoptlaw23.FloatValid" = some 6 := by kernel_rfl
theorem Zmv:(Rows.floatValidRow.inPlace == Tryz.pinned.checked.prog.inPlace 6)=true:=by kernel_rfl
theorem Zmw:(Rows.floatValidRow.unfollowed == Tryz.pinned.checked.prog.unfollowed 6)=true:=by kernel_rfl
theorem Zmx:(Rows.floatValidRow.recurses == Tryz.pinned.checked.prog.recurses 6)=true:=by kernel_rfl
theorem Zmy:(Rows.floatValidRow.named == Tryz.pinned.checked.prog.varsNamed 6)=true:=by kernel_rfl
theorem Zi8:joinedFacts Tryz.pinned.checked.prog 6 Tryz.f6 Rows.floatValidSpec Rows.floatValidRow=true:=by
 unfold joinedFacts
 rw [Zmv,Zmw,Zmx,Zmy]
 kernel_rfl
theorem ZkP:Tryz.f6.isInstance Tryz.pinned.checked.prog Rows.floatValidRow.origin Rows.floatValidRow.targs:=of_decide_eq_true (by kernel_rfl)
theorem ZkQ:Tryz.f6.isWrapper Tryz.pinned.checked.prog Rows.floatValidRow.wrapper Rows.floatValidRow.mainSum:=by unfold Func.isWrapper; first | (rw [if_pos (by decide +kernel)]; kernel_rfl) | (rw [if_neg (by decide +kernel)]; exact ⟨rfl,rfl⟩)
theorem Zlv:Rows.FloatValidSaid :=
 OpenClaim.holds_of_wide 6 Tryz.f6 rfl rfl rfl rfl rfl rfl rfl ⟨rfl,rfl,rfl,rfl,rfl⟩ rfl rfl rfl rfl rfl Zf9 Tryz.func6 Zi8 ZkP ZkQ
  (fun os started H enc _=>Zi7 os started H enc)
theorem Zmz:Rows.floatValidRow.wfByText (OpenSpec.ofChange Rows.floatValidSpec)=true:=by kernel_rfl
theorem ZkR:Tryz.pinned.checked.prog.mainIs=some (Rows.floatValidCard.stood.harness.1,Rows.floatValidCard.stood.harness.2.toList):=by kernel_rfl
theorem ZjU:true=Tryz.pinned.checked.prog.looks []:=by kernel_rfl
theorem ZkS:false=Rows.floatValidRow.goesBy Tryz.pinned.checked.prog:=by kernel_rfl
theorem ZjV:([24].all fun u => !Tryz.prog.wantsStandIn u)=true:=by kernel_rfl
theorem floatValid_card:Rows.FloatValidCardSaid :=
 Claim7.holds_tied_plain_at .later [] [.data, .data, .data, .sentinel, .sentinel] true Rows.floatValidCard.stood.harness true
  Zlv (fun _ h=>by cases h) Zmz (fun _ h=>by cases h) floatValid_row_tie rfl ⟨rfl,rfl⟩ ZkR rfl
  (fun f fn hf hfn=>by
   obtain rfl:f=6:=Option.some.inj ((Zf9).symm.trans hf) |>.symm
   obtain rfl:fn=Tryz.f6:=(Option.some.inj (Tryz.func6.symm.trans hfn)).symm
   exact ⟨ZjU,fun j t ht=>by
    rw [Tryz.params6] at ht
    have hm:t ∈ [24]:=by simpa using Array.mem_of_getElem? ht
    exact (show Tryz.prog.wantsStandIn t=false by simpa using List.all_eq_true.1 ZjV t hm)⟩)
  ZkS
#print axioms floatValid_card
end Go.Proofs.YtklpdkpcocnglaaGreatDoor
