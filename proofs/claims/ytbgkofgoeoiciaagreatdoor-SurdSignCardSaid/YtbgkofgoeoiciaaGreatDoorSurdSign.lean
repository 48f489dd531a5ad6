/-
 My texts SsP put together.
-/
import Derived.Test.YtbgkofgoeoiciaaGreatDoorQ09
import Derived.Test.YtbgkofgoeoiciaaGreatDoorQ26
import Derived.Test.YtbgkofgoeoiciaaGreatDoorQ24
import Derived.Test.YtbgkofgoeoiciaaGreatDoorTie
import Derived.Test.YtbgkofgoeoiciaaGreatDoorCards
import Derived.SevenTiedAt
import Derived.ChangeOld
import Derived.Below
namespace Go.Proofs.YtbgkofgoeoiciaaGreatDoor
open Go.ChangeShapes Go.WideShapes Go.ChangeAt Go.RowKit
open Go.ChangeMaps (open_string shut_string)
theorem surdSign_laidOut:laidOutB Tryz.prog=true:=by kernel_rfl
set_option maxRecDepth 100000 in
theorem surdSign_lifted (os:Os) (started:os.Started) (H:Type) (enc:TypeId × Value→H) :
 ReturnsInHanded {} Tryz.checked os 4 .any (fun w args=>(Rows.surdSignSpec.pre enc Tryz.prog Tryz.f4 [] false w args∧laidMetH Tryz.prog laid3 w)∧sizedMet enc Tryz.prog Tryz.f4 (OpenSpec.ofChange Rows.surdSignSpec) false w args)
  (Rows.surdSignSpec.post enc Tryz.prog Tryz.f4 false true false false):=by
 refine returnsInHanded_of_change_and (C:=Tryz.checked) (X:=fun w _=>laidMetH Tryz.prog laid3 w) (fun _ _ _ hh h=>h.of_heap hh) own started (by kernel_rfl) Tryz.func4
  (ChangeSpec.witness_shaped (enc:=enc) (C:=Tryz.checked) (os:=os) (X:=fun w _=>laidMetH Tryz.prog laid3 w) false (World.doorLaid Tryz.prog 400 os) #[.agg #[.string ⟨#[]⟩, .string ⟨#[]⟩, .int .i64 0]] 8 rfl (World.shaped_of_RefB (by kernel_rfl) (by kernel_rfl)) (by kernel_rfl) (by kernel_rfl) (by kernel_rfl) (door_met os _)) ?_
 intro W base args ds gs before hval0 hW _ _ hL _
 have hval:∀ (j:Nat) t v,Tryz.f4.params[j]? = some t→args[j]? = some v→Value.okWide Tryz.prog W .any base t v:=hval0
 have hW':=hW
 obtain ⟨p,q,hA0,hV,rfl,hfz,hnd⟩:=hW
 have hA:DataW.TrodAll enc Tryz.prog W 0 (fun _=>true) true Tryz.f4.params.toList args.toList ds p:=hA0
 rw [Tryz.params4] at hA hval
 obtain ⟨v0,vs0,d0,ds0,p0,q0,hargs,rfl,rfl,h0,r0⟩:=trodAll_cons hA
 obtain ⟨rfl,rfl,rfl⟩:=trodAll_nil r0
 obtain rfl:args=#[v0]:=by cases args; simp_all
 obtain ⟨rfl,rfl⟩:=trodVars_none hV
 obtain ⟨a0,b0,c0,rfl,rfl,rfl,w0⟩:=open_surd (hval 0 23 v0 rfl rfl) h0
 clear hA0 hval0
 simp only [List.append_nil] at hW'
 refine (surdSign_any a0 b0 c0 W (glob_of_laid hL)).mono fun e W' ⟨he,hE⟩=>?_
 subst he
 have bel:=Fr.toBelow hE
 exact ⟨_,rfl,_,_,_,[],_,[],hW',trodAll_mk1 (shut_bool Tryz.underlying4 _),(trodAll_cons_mk (shut_surd w0) trodAll_mk0),(by first | rfl | simp),bel.frame _,fun h=>by cases h⟩
theorem surdSign_named : Tryz.prog.funcNamed "sosopt/sosoptlaw11.SurdSign" = some 4 := by kernel_rfl
theorem surdSign_f1:(Rows.surdSignRow.inPlace == Tryz.pinned.checked.prog.inPlace 4)=true:=by kernel_rfl
theorem surdSign_f2:(Rows.surdSignRow.unfollowed == Tryz.pinned.checked.prog.unfollowed 4)=true:=by kernel_rfl
theorem surdSign_f3:(Rows.surdSignRow.recurses == Tryz.pinned.checked.prog.recurses 4)=true:=by kernel_rfl
theorem surdSign_f4:(Rows.surdSignRow.named == Tryz.pinned.checked.prog.varsNamed 4)=true:=by kernel_rfl
set_option maxRecDepth 100000 in
theorem surdSign_closed:joinedFacts Tryz.pinned.checked.prog 4 Tryz.f4 Rows.surdSignSpec Rows.surdSignRow=true:=by
 unfold joinedFacts
 rw [surdSign_f1,surdSign_f2,surdSign_f3,surdSign_f4]
 kernel_rfl
theorem surdSign_inst:Tryz.f4.isInstance Tryz.pinned.checked.prog Rows.surdSignRow.origin Rows.surdSignRow.targs:=of_decide_eq_true (by kernel_rfl)
theorem surdSign_wrap:Tryz.f4.isWrapper Tryz.pinned.checked.prog Rows.surdSignRow.wrapper Rows.surdSignRow.mainSum:=by unfold Func.isWrapper; first | (rw [if_pos (by decide +kernel)]; kernel_rfl) | (rw [if_neg (by decide +kernel)]; exact ⟨rfl,rfl⟩)
theorem surdSign_row:Rows.SurdSignSaid :=
 OpenClaim.holds_of_wide 4 Tryz.f4 rfl rfl rfl rfl rfl rfl rfl ⟨rfl,rfl,rfl,rfl,rfl⟩ rfl rfl rfl rfl rfl surdSign_named Tryz.func4 surdSign_closed surdSign_inst surdSign_wrap
  (fun os started H enc _=>surdSign_lifted os started H enc)
theorem surdSign_wf:Rows.surdSignRow.wfByText (OpenSpec.ofChange Rows.surdSignSpec)=true:=by kernel_rfl
theorem surdSign_main:Tryz.pinned.checked.prog.mainIs=some (Rows.surdSignCard.stood.harness.1,Rows.surdSignCard.stood.harness.2.toList):=by kernel_rfl
theorem surdSign_looks:true=Tryz.pinned.checked.prog.looks []:=by kernel_rfl
theorem surdSign_goes:false=Rows.surdSignRow.goesBy Tryz.pinned.checked.prog:=by kernel_rfl
theorem surdSign_stand:([23].all fun u => !Tryz.prog.wantsStandIn u)=true:=by kernel_rfl
theorem surdSign_card:Rows.SurdSignCardSaid :=
 Claim7.holds_tied_plain_at .later [] [.data, .data, .data] true Rows.surdSignCard.stood.harness true
  surdSign_row (fun _ h=>by cases h) surdSign_wf (fun _ h=>by cases h) surdSign_row_tie rfl ⟨rfl,rfl⟩ surdSign_main rfl
  (fun f fn hf hfn=>by
   obtain rfl:f=4:=Option.some.inj ((surdSign_named).symm.trans hf) |>.symm
   obtain rfl:fn=Tryz.f4:=(Option.some.inj (Tryz.func4.symm.trans hfn)).symm
   exact ⟨surdSign_looks,fun j t ht=>by
    rw [Tryz.params4] at ht
    have hm:t ∈ [23]:=by simpa using Array.mem_of_getElem? ht
    exact (show Tryz.prog.wantsStandIn t=false by simpa using List.all_eq_true.1 surdSign_stand t hm)⟩)
  surdSign_goes
#print axioms surdSign_card
end Go.Proofs.YtbgkofgoeoiciaaGreatDoor
