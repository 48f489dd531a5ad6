/-
 My texts RtP put together.
-/
import Derived.Test.YtbgkofgoeoiciaaGreatDoorT09
import Derived.Test.YtbgkofgoeoiciaaGreatDoorT24
import Derived.Test.YtbgkofgoeoiciaaGreatDoorTie
import Derived.Test.YtbgkofgoeoiciaaGreatDoorCards
import Derived.SevenTiedAt
import Derived.ChangeOld
import Derived.Below
namespace Go.Proofs.YtbgkofgoeoiciaaGreatDoor
open Go.ChangeShapes Go.WideShapes Go.ChangeAt Go.RowKit
open Go.ChangeMaps (open_string shut_string)
theorem modularRoundTrip_laidOut:laidOutB Tryz.prog=true:=by kernel_rfl
set_option maxRecDepth 100000 in
theorem modularRoundTrip_lifted (os:Os) (started:os.Started) (H:Type) (enc:TypeId × Value→H) :
 ReturnsInHanded {} Tryz.checked os 11 .any (fun w args=>(Rows.modularRoundTripSpec.pre enc Tryz.prog Tryz.f11 [] false w args∧laidMetH Tryz.prog laid3 w)∧sizedMet enc Tryz.prog Tryz.f11 (OpenSpec.ofChange Rows.modularRoundTripSpec) false w args)
  (Rows.modularRoundTripSpec.post enc Tryz.prog Tryz.f11 false true false false):=by
 refine returnsInHanded_of_change_and (C:=Tryz.checked) (X:=fun w _=>laidMetH Tryz.prog laid3 w) (fun _ _ _ hh h=>h.of_heap hh) own started (by kernel_rfl) Tryz.func11
  (ChangeSpec.witness_shaped (enc:=enc) (C:=Tryz.checked) (os:=os) (X:=fun w _=>laidMetH Tryz.prog laid3 w) false (World.doorLaid Tryz.prog 400 os) #[.string ⟨#[]⟩, .int .i64 0] 8 rfl (World.shaped_of_RefB (by kernel_rfl) (by kernel_rfl)) (by kernel_rfl) (by kernel_rfl) (by kernel_rfl) (door_met os _)) ?_
 intro W base args ds gs before hval0 hW _ _ hL _
 have hval:∀ (j:Nat) t v,Tryz.f11.params[j]? = some t→args[j]? = some v→Value.okWide Tryz.prog W .any base t v:=hval0
 have hW':=hW
 obtain ⟨p,q,hA0,hV,rfl,hfz,hnd⟩:=hW
 have hA:DataW.TrodAll enc Tryz.prog W 0 (fun _=>true) true Tryz.f11.params.toList args.toList ds p:=hA0
 rw [Tryz.params11] at hA hval
 obtain ⟨v0,vs0,d0,ds0,p0,q0,hargs,rfl,rfl,h0,r0⟩:=trodAll_cons hA
 obtain ⟨v1,vs1,d1,ds1,p1,q1,rfl,rfl,rfl,h1,r1⟩:=trodAll_cons r0
 obtain ⟨rfl,rfl,rfl⟩:=trodAll_nil r1
 obtain rfl:args=#[v0,v1]:=by cases args; simp_all
 obtain ⟨rfl,rfl⟩:=trodVars_none hV
 obtain ⟨a0,rfl,rfl,rfl,w0⟩:=open_string Tryz.underlying9 (hval 0 9 v0 rfl rfl) h0
 obtain ⟨a1,rfl,rfl,rfl,w1⟩:=open_int Tryz.underlying3 (hval 1 3 v1 rfl rfl) h1
 clear hA0 hval0
 simp only [List.append_nil] at hW'
 refine (modularRoundTrip_any a0 a1 W (glob_of_laid hL)).mono fun e W' ⟨he,hE⟩=>?_
 subst he
 have bel:=Fr.toBelow hE
 exact ⟨_,rfl,_,_,_,[],_,[],hW',trodAll_mk1 (shut_bool Tryz.underlying4 _),(trodAll_cons_mk (shut_string Tryz.underlying9 w0) (trodAll_cons_mk (shut_int Tryz.underlying3 w1) trodAll_mk0)),(by first | rfl | simp),bel.frame _,fun h=>by cases h⟩
theorem modularRoundTrip_named : Tryz.prog.funcNamed "sosopt/sosoptlaw02.ModularRoundTrip" = some 11 := by kernel_rfl
theorem modularRoundTrip_f1:(Rows.modularRoundTripRow.inPlace == Tryz.pinned.checked.prog.inPlace 11)=true:=by kernel_rfl
theorem modularRoundTrip_f2:(Rows.modularRoundTripRow.unfollowed == Tryz.pinned.checked.prog.unfollowed 11)=true:=by kernel_rfl
theorem modularRoundTrip_f3:(Rows.modularRoundTripRow.recurses == Tryz.pinned.checked.prog.recurses 11)=true:=by kernel_rfl
theorem modularRoundTrip_f4:(Rows.modularRoundTripRow.named == Tryz.pinned.checked.prog.varsNamed 11)=true:=by kernel_rfl
set_option maxRecDepth 100000 in
theorem modularRoundTrip_closed:joinedFacts Tryz.pinned.checked.prog 11 Tryz.f11 Rows.modularRoundTripSpec Rows.modularRoundTripRow=true:=by
 unfold joinedFacts
 rw [modularRoundTrip_f1,modularRoundTrip_f2,modularRoundTrip_f3,modularRoundTrip_f4]
 kernel_rfl
theorem modularRoundTrip_inst:Tryz.f11.isInstance Tryz.pinned.checked.prog Rows.modularRoundTripRow.origin Rows.modularRoundTripRow.targs:=of_decide_eq_true (by kernel_rfl)
theorem modularRoundTrip_wrap:Tryz.f11.isWrapper Tryz.pinned.checked.prog Rows.modularRoundTripRow.wrapper Rows.modularRoundTripRow.mainSum:=by unfold Func.isWrapper; first | (rw [if_pos (by decide +kernel)]; kernel_rfl) | (rw [if_neg (by decide +kernel)]; exact ⟨rfl,rfl⟩)
theorem modularRoundTrip_row:Rows.ModularRoundTripSaid :=
 OpenClaim.holds_of_wide 11 Tryz.f11 rfl rfl rfl rfl rfl rfl rfl ⟨rfl,rfl,rfl,rfl,rfl⟩ rfl rfl rfl rfl rfl modularRoundTrip_named Tryz.func11 modularRoundTrip_closed modularRoundTrip_inst modularRoundTrip_wrap
  (fun os started H enc _=>modularRoundTrip_lifted os started H enc)
theorem modularRoundTrip_wf:Rows.modularRoundTripRow.wfByText (OpenSpec.ofChange Rows.modularRoundTripSpec)=true:=by kernel_rfl
theorem modularRoundTrip_main:Tryz.pinned.checked.prog.mainIs=some (Rows.modularRoundTripCard.stood.harness.1,Rows.modularRoundTripCard.stood.harness.2.toList):=by kernel_rfl
theorem modularRoundTrip_looks:true=Tryz.pinned.checked.prog.looks []:=by kernel_rfl
theorem modularRoundTrip_goes:false=Rows.modularRoundTripRow.goesBy Tryz.pinned.checked.prog:=by kernel_rfl
theorem modularRoundTrip_stand:([9,3].all fun u => !Tryz.prog.wantsStandIn u)=true:=by kernel_rfl
theorem modularRoundTrip_card:Rows.ModularRoundTripCardSaid :=
 Claim7.holds_tied_plain_at .later [] [.data, .data, .data] true Rows.modularRoundTripCard.stood.harness true
  modularRoundTrip_row (fun _ h=>by cases h) modularRoundTrip_wf (fun _ h=>by cases h) modularRoundTrip_row_tie rfl ⟨rfl,rfl⟩ modularRoundTrip_main rfl
  (fun f fn hf hfn=>by
   obtain rfl:f=11:=Option.some.inj ((modularRoundTrip_named).symm.trans hf) |>.symm
   obtain rfl:fn=Tryz.f11:=(Option.some.inj (Tryz.func11.symm.trans hfn)).symm
   exact ⟨modularRoundTrip_looks,fun j t ht=>by
    rw [Tryz.params11] at ht
    have hm:t ∈ [9,3]:=by simpa using Array.mem_of_getElem? ht
    exact (show Tryz.prog.wantsStandIn t=false by simpa using List.all_eq_true.1 modularRoundTrip_stand t hm)⟩)
  modularRoundTrip_goes
#print axioms modularRoundTrip_card
end Go.Proofs.YtbgkofgoeoiciaaGreatDoor
