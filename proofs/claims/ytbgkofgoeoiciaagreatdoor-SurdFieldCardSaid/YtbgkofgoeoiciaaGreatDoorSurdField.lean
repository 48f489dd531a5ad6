/-
 My texts SfP put together.
-/
import Derived.Test.YtbgkofgoeoiciaaGreatDoorM09
import Derived.Test.YtbgkofgoeoiciaaGreatDoorM22
import Derived.Test.YtbgkofgoeoiciaaGreatDoorM23
import Derived.Test.YtbgkofgoeoiciaaGreatDoorTie
import Derived.Test.YtbgkofgoeoiciaaGreatDoorCards
import Derived.SevenTiedAt
import Derived.ChangeOld
import Derived.Below
namespace Go.Proofs.YtbgkofgoeoiciaaGreatDoor
open Go.ChangeShapes Go.WideShapes Go.ChangeAt Go.RowKit
open Go.ChangeMaps (open_string shut_string)
theorem surdField_laidOut:laidOutB Tryz.prog=true:=by kernel_rfl
set_option maxRecDepth 100000 in
theorem surdField_lifted (os:Os) (started:os.Started) (H:Type) (enc:TypeId × Value→H) :
 ReturnsInHanded {} Tryz.checked os 5 .any (fun w args=>(Rows.surdFieldSpec.pre enc Tryz.prog Tryz.f5 [] false w args∧laidMetH Tryz.prog laid3 w)∧sizedMet enc Tryz.prog Tryz.f5 (OpenSpec.ofChange Rows.surdFieldSpec) false w args)
  (Rows.surdFieldSpec.post enc Tryz.prog Tryz.f5 false true false false):=by
 refine returnsInHanded_of_change_and (C:=Tryz.checked) (X:=fun w _=>laidMetH Tryz.prog laid3 w) (fun _ _ _ hh h=>h.of_heap hh) own started (by kernel_rfl) Tryz.func5
  (ChangeSpec.witness_shaped (enc:=enc) (C:=Tryz.checked) (os:=os) (X:=fun w _=>laidMetH Tryz.prog laid3 w) false (World.doorLaid Tryz.prog 400 os) #[.agg #[.string ⟨#[]⟩, .string ⟨#[]⟩, .int .i64 0], .agg #[.string ⟨#[]⟩, .string ⟨#[]⟩, .int .i64 0], .agg #[.string ⟨#[]⟩, .string ⟨#[]⟩, .int .i64 0]] 8 rfl (World.shaped_of_RefB (by kernel_rfl) (by kernel_rfl)) (by kernel_rfl) (by kernel_rfl) (by kernel_rfl) (door_met os _)) ?_
 intro W base args ds gs before hval0 hW _ _ hL _
 have hval:∀ (j:Nat) t v,Tryz.f5.params[j]? = some t→args[j]? = some v→Value.okWide Tryz.prog W .any base t v:=hval0
 have hW':=hW
 obtain ⟨p,q,hA0,hV,rfl,hfz,hnd⟩:=hW
 have hA:DataW.TrodAll enc Tryz.prog W 0 (fun _=>true) true Tryz.f5.params.toList args.toList ds p:=hA0
 rw [Tryz.params5] at hA hval
 obtain ⟨v0,vs0,d0,ds0,p0,q0,hargs,rfl,rfl,h0,r0⟩:=trodAll_cons hA
 obtain ⟨v1,vs1,d1,ds1,p1,q1,rfl,rfl,rfl,h1,r1⟩:=trodAll_cons r0
 obtain ⟨v2,vs2,d2,ds2,p2,q2,rfl,rfl,rfl,h2,r2⟩:=trodAll_cons r1
 obtain ⟨rfl,rfl,rfl⟩:=trodAll_nil r2
 obtain rfl:args=#[v0,v1,v2]:=by cases args; simp_all
 obtain ⟨rfl,rfl⟩:=trodVars_none hV
 obtain ⟨a0,b0,c0,rfl,rfl,rfl,w0⟩:=open_surd (hval 0 23 v0 rfl rfl) h0
 obtain ⟨a1,b1,c1,rfl,rfl,rfl,w1⟩:=open_surd (hval 1 23 v1 rfl rfl) h1
 obtain ⟨a2,b2,c2,rfl,rfl,rfl,w2⟩:=open_surd (hval 2 23 v2 rfl rfl) h2
 clear hA0 hval0
 simp only [List.append_nil] at hW'
 refine (surdField_any a0 b0 a1 b1 a2 b2 c0 c1 c2 W (glob_of_laid hL)).mono fun e W' ⟨he,hE⟩=>?_
 subst he
 have bel:=Fr.toBelow hE
 exact ⟨_,rfl,_,_,_,[],_,[],hW',trodAll_mk1 (shut_bool Tryz.underlying4 _),(trodAll_cons_mk (shut_surd w0) (trodAll_cons_mk (shut_surd w1) (trodAll_cons_mk (shut_surd w2) trodAll_mk0))),(by first | rfl | simp),bel.frame _,fun h=>by cases h⟩
theorem surdField_named : Tryz.prog.funcNamed "sosopt/sosoptlaw11.SurdField" = some 5 := by kernel_rfl
theorem surdField_f1:(Rows.surdFieldRow.inPlace == Tryz.pinned.checked.prog.inPlace 5)=true:=by kernel_rfl
theorem surdField_f2:(Rows.surdFieldRow.unfollowed == Tryz.pinned.checked.prog.unfollowed 5)=true:=by kernel_rfl
theorem surdField_f3:(Rows.surdFieldRow.recurses == Tryz.pinned.checked.prog.recurses 5)=true:=by kernel_rfl
theorem surdField_f4:(Rows.surdFieldRow.named == Tryz.pinned.checked.prog.varsNamed 5)=true:=by kernel_rfl
set_option maxRecDepth 100000 in
theorem surdField_closed:joinedFacts Tryz.pinned.checked.prog 5 Tryz.f5 Rows.surdFieldSpec Rows.surdFieldRow=true:=by
 unfold joinedFacts
 rw [surdField_f1,surdField_f2,surdField_f3,surdField_f4]
 kernel_rfl
theorem surdField_inst:Tryz.f5.isInstance Tryz.pinned.checked.prog Rows.surdFieldRow.origin Rows.surdFieldRow.targs:=of_decide_eq_true (by kernel_rfl)
theorem surdField_wrap:Tryz.f5.isWrapper Tryz.pinned.checked.prog Rows.surdFieldRow.wrapper Rows.surdFieldRow.mainSum:=by unfold Func.isWrapper; first | (rw [if_pos (by decide +kernel)]; kernel_rfl) | (rw [if_neg (by decide +kernel)]; exact ⟨rfl,rfl⟩)
theorem surdField_row:Rows.SurdFieldSaid :=
 OpenClaim.holds_of_wide 5 Tryz.f5 rfl rfl rfl rfl rfl rfl rfl ⟨rfl,rfl,rfl,rfl,rfl⟩ rfl rfl rfl rfl rfl surdField_named Tryz.func5 surdField_closed surdField_inst surdField_wrap
  (fun os started H enc _=>surdField_lifted os started H enc)
theorem surdField_wf:Rows.surdFieldRow.wfByText (OpenSpec.ofChange Rows.surdFieldSpec)=true:=by kernel_rfl
theorem surdField_main:Tryz.pinned.checked.prog.mainIs=some (Rows.surdFieldCard.stood.harness.1,Rows.surdFieldCard.stood.harness.2.toList):=by kernel_rfl
theorem surdField_looks:true=Tryz.pinned.checked.prog.looks []:=by kernel_rfl
theorem surdField_goes:false=Rows.surdFieldRow.goesBy Tryz.pinned.checked.prog:=by kernel_rfl
theorem surdField_stand:([23,23,23].all fun u => !Tryz.prog.wantsStandIn u)=true:=by kernel_rfl
theorem surdField_card:Rows.SurdFieldCardSaid :=
 Claim7.holds_tied_plain_at .later [] [.data, .data, .data] true Rows.surdFieldCard.stood.harness true
  surdField_row (fun _ h=>by cases h) surdField_wf (fun _ h=>by cases h) surdField_row_tie rfl ⟨rfl,rfl⟩ surdField_main rfl
  (fun f fn hf hfn=>by
   obtain rfl:f=5:=Option.some.inj ((surdField_named).symm.trans hf) |>.symm
   obtain rfl:fn=Tryz.f5:=(Option.some.inj (Tryz.func5.symm.trans hfn)).symm
   exact ⟨surdField_looks,fun j t ht=>by
    rw [Tryz.params5] at ht
    have hm:t ∈ [23,23,23]:=by simpa using Array.mem_of_getElem? ht
    exact (show Tryz.prog.wantsStandIn t=false by simpa using List.all_eq_true.1 surdField_stand t hm)⟩)
  surdField_goes
#print axioms surdField_card
end Go.Proofs.YtbgkofgoeoiciaaGreatDoor
