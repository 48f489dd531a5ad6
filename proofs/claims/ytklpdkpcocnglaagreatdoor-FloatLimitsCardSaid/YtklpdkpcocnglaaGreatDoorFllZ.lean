/-
 My texts FllP put together.
-/
import Derived.Test.YtklpdkpcocnglaaGreatDoorX09
import Derived.Test.YtklpdkpcocnglaaGreatDoorX17
import Derived.Test.YtklpdkpcocnglaaGreatDoorTie
import Derived.Test.YtklpdkpcocnglaaGreatDoorCards
import Derived.SevenTiedAt
import Derived.ChangeOld
import Derived.Below
set_option maxRecDepth 100000
namespace Go.Proofs.YtklpdkpcocnglaaGreatDoor
open Go.ChangeShapes Go.WideShapes Go.ChangeAt Go.RowKit
open Go.ChangeMaps (open_string shut_string)
theorem Zlo:laidOutB Tryz.prog=true:=by kernel_rfl
theorem Zge (os:Os) (started:os.Started) (H:Type) (enc:TypeId × Value→H) :
 ReturnsInHanded {} Tryz.checked os 9 .any (fun w args=>(Rows.floatLimitsSpec.pre enc Tryz.prog Tryz.f9 [] false w args∧laidMetH Tryz.prog Zhb w)∧sizedMet enc Tryz.prog Tryz.f9 (OpenSpec.ofChange Rows.floatLimitsSpec) false w args)
  (Rows.floatLimitsSpec.post enc Tryz.prog Tryz.f9 false true false false):=by
 refine returnsInHanded_of_change_and (C:=Tryz.checked) (X:=fun w _=>laidMetH Tryz.prog Zhb w) (fun _ _ _ hh h=>h.of_heap hh) own started (by kernel_rfl) Tryz.func9
  (ChangeSpec.witness_shaped (enc:=enc) (C:=Tryz.checked) (os:=os) (X:=fun w _=>laidMetH Tryz.prog Zhb w) false (World.doorLaid Tryz.prog 400 os) #[.int .i64 0] 8 rfl (World.shaped_of_RefB (by kernel_rfl) (by kernel_rfl)) (by kernel_rfl) (by kernel_rfl) (by kernel_rfl) (Zlz os _)) ?_
 intro W base args ds gs before hval0 hW _ _ hL _
 have hval:∀ (j:Nat) t v,Tryz.f9.params[j]? = some t→args[j]? = some v→Value.okWide Tryz.prog W .any base t v:=hval0
 have hW':=hW
 obtain ⟨p,q,hA0,hV,rfl,hfz,hnd⟩:=hW
 have hA:DataW.TrodAll enc Tryz.prog W 0 (fun _=>true) true Tryz.f9.params.toList args.toList ds p:=hA0
 rw [Tryz.params9] at hA hval
 obtain ⟨v0,vs0,d0,ds0,p0,q0,hargs,rfl,rfl,h0,r0⟩:=trodAll_cons hA
 obtain ⟨rfl,rfl,rfl⟩:=trodAll_nil r0
 obtain rfl:args=#[v0]:=by cases args; simp_all
 obtain ⟨rfl,rfl⟩:=trodVars_none hV
 obtain ⟨a0,rfl,rfl,rfl,w0⟩:=open_int Tryz.underlying3 (hval 0 3 v0 rfl rfl) h0
 clear hA0 hval0
 simp only [List.append_nil] at hW'
 refine (ZhF a0 W (Ziu hL)).mono fun e W' ⟨he,Q⟩=>?_
 subst he
 have bel:=Fr.toBelow Q
 exact ⟨_,rfl,_,_,_,[],_,[],hW',trodAll_mk1 (shut_bool Tryz.underlying4 _),(trodAll_cons_mk (shut_int Tryz.underlying3 w0) trodAll_mk0),(by first | rfl | simp),bel.frame _,fun h=>by cases h⟩
theorem Zd3 : Tryz.prog.funcNamed "sosopt/sosoptlaw23.FloatLimits" = some 9 := by kernel_rfl
theorem ZhZ:(Rows.floatLimitsRow.inPlace == Tryz.pinned.checked.prog.inPlace 9)=true:=by kernel_rfl
theorem Zh0:(Rows.floatLimitsRow.unfollowed == Tryz.pinned.checked.prog.unfollowed 9)=true:=by kernel_rfl
theorem Zh1:(Rows.floatLimitsRow.recurses == Tryz.pinned.checked.prog.recurses 9)=true:=by kernel_rfl
theorem Zh2:(Rows.floatLimitsRow.named == Tryz.pinned.checked.prog.varsNamed 9)=true:=by kernel_rfl
theorem Zgf:joinedFacts Tryz.pinned.checked.prog 9 Tryz.f9 Rows.floatLimitsSpec Rows.floatLimitsRow=true:=by
 unfold joinedFacts
 rw [ZhZ,Zh0,Zh1,Zh2]
 kernel_rfl
theorem ZgZ:Tryz.f9.isInstance Tryz.pinned.checked.prog Rows.floatLimitsRow.origin Rows.floatLimitsRow.targs:=of_decide_eq_true (by kernel_rfl)
theorem Zg0:Tryz.f9.isWrapper Tryz.pinned.checked.prog Rows.floatLimitsRow.wrapper Rows.floatLimitsRow.mainSum:=by unfold Func.isWrapper; first | (rw [if_pos (by decide +kernel)]; kernel_rfl) | (rw [if_neg (by decide +kernel)]; exact ⟨rfl,rfl⟩)
theorem ZhG:Rows.FloatLimitsSaid :=
 OpenClaim.holds_of_wide 9 Tryz.f9 rfl rfl rfl rfl rfl rfl rfl ⟨rfl,rfl,rfl,rfl,rfl⟩ rfl rfl rfl rfl rfl Zd3 Tryz.func9 Zgf ZgZ Zg0
  (fun os started H enc _=>Zge os started H enc)
theorem Zh3:Rows.floatLimitsRow.wfByText (OpenSpec.ofChange Rows.floatLimitsSpec)=true:=by kernel_rfl
theorem Zg1:Tryz.pinned.checked.prog.mainIs=some (Rows.floatLimitsCard.stood.harness.1,Rows.floatLimitsCard.stood.harness.2.toList):=by kernel_rfl
theorem Zgz:true=Tryz.pinned.checked.prog.looks []:=by kernel_rfl
theorem Zg2:false=Rows.floatLimitsRow.goesBy Tryz.pinned.checked.prog:=by kernel_rfl
theorem ZgA:([3].all fun u => !Tryz.prog.wantsStandIn u)=true:=by kernel_rfl
theorem floatLimits_card:Rows.FloatLimitsCardSaid :=
 Claim7.holds_tied_plain_at .later [] [.data, .data, .data, .sentinel, .sentinel] true Rows.floatLimitsCard.stood.harness true
  ZhG (fun _ h=>by cases h) Zh3 (fun _ h=>by cases h) floatLimits_row_tie rfl ⟨rfl,rfl⟩ Zg1 rfl
  (fun f fn hf hfn=>by
   obtain rfl:f=9:=Option.some.inj ((Zd3).symm.trans hf) |>.symm
   obtain rfl:fn=Tryz.f9:=(Option.some.inj (Tryz.func9.symm.trans hfn)).symm
   exact ⟨Zgz,fun j t ht=>by
    rw [Tryz.params9] at ht
    have hm:t ∈ [3]:=by simpa using Array.mem_of_getElem? ht
    exact (show Tryz.prog.wantsStandIn t=false by simpa using List.all_eq_true.1 ZgA t hm)⟩)
  Zg2
#print axioms floatLimits_card
end Go.Proofs.YtklpdkpcocnglaaGreatDoor
