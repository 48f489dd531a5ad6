/-
 My texts SnP put together.
-/
import Derived.Test.YtbgkofgoeoiciaaGreatDoorM09
import Derived.Test.YtbgkofgoeoiciaaGreatDoorM25
import Derived.Test.YtbgkofgoeoiciaaGreatDoorM23
import Derived.Test.YtbgkofgoeoiciaaGreatDoorTie
import Derived.Test.YtbgkofgoeoiciaaGreatDoorCards
import Derived.SevenTiedAt
import Derived.ChangeOld
import Derived.Below
namespace Go.Proofs.YtbgkofgoeoiciaaGreatDoor
open Go.ChangeShapes Go.WideShapes Go.ChangeAt Go.RowKit
open Go.ChangeMaps (open_string shut_string)
theorem surdNorm_laidOut:laidOutB Tryz.prog=true:=by kernel_rfl
set_option maxRecDepth 100000 in
theorem surdNorm_lifted (os:Os) (started:os.Started) (H:Type) (enc:TypeId × Value→H) :
 ReturnsInHanded {} Tryz.checked os 9 .any (fun w args=>(Rows.surdNormSpec.pre enc Tryz.prog Tryz.f9 [] false w args∧laidMetH Tryz.prog laid3 w)∧sizedMet enc Tryz.prog Tryz.f9 (OpenSpec.ofChange Rows.surdNormSpec) false w args)
  (Rows.surdNormSpec.post enc Tryz.prog Tryz.f9 false true false false):=by
 refine returnsInHanded_of_change_and (C:=Tryz.checked) (X:=fun w _=>laidMetH Tryz.prog laid3 w) (fun _ _ _ hh h=>h.of_heap hh) own started (by kernel_rfl) Tryz.func9
  (ChangeSpec.witness_shaped (enc:=enc) (C:=Tryz.checked) (os:=os) (X:=fun w _=>laidMetH Tryz.prog laid3 w) false (World.doorLaid Tryz.prog 400 os) #[.agg #[.string ⟨#[]⟩, .string ⟨#[]⟩, .int .i64 0], .agg #[.string ⟨#[]⟩, .string ⟨#[]⟩, .int .i64 0]] 8 rfl (World.shaped_of_RefB (by kernel_rfl) (by kernel_rfl)) (by kernel_rfl) (by kernel_rfl) (by kernel_rfl) (door_met os _)) ?_
 intro W base args ds gs before hval0 hW _ _ hL _
 have hval:∀ (j:Nat) t v,Tryz.f9.params[j]? = some t→args[j]? = some v→Value.okWide Tryz.prog W .any base t v:=hval0
 have hW':=hW
 obtain ⟨p,q,hA0,hV,rfl,hfz,hnd⟩:=hW
 have hA:DataW.TrodAll enc Tryz.prog W 0 (fun _=>true) true Tryz.f9.params.toList args.toList ds p:=hA0
 rw [Tryz.params9] at hA hval
 obtain ⟨v0,vs0,d0,ds0,p0,q0,hargs,rfl,rfl,h0,r0⟩:=trodAll_cons hA
 obtain ⟨v1,vs1,d1,ds1,p1,q1,rfl,rfl,rfl,h1,r1⟩:=trodAll_cons r0
 obtain ⟨rfl,rfl,rfl⟩:=trodAll_nil r1
 obtain rfl:args=#[v0,v1]:=by cases args; simp_all
 obtain ⟨rfl,rfl⟩:=trodVars_none hV
 obtain ⟨a0,b0,c0,rfl,rfl,rfl,w0⟩:=open_surd (hval 0 23 v0 rfl rfl) h0
 obtain ⟨a1,b1,c1,rfl,rfl,rfl,w1⟩:=open_surd (hval 1 23 v1 rfl rfl) h1
 clear hA0 hval0
 simp only [List.append_nil] at hW'
 refine (surdNorm_any a0 b0 a1 b1 c0 c1 W (glob_of_laid hL)).mono fun e W' ⟨he,hE⟩=>?_
 subst he
 have bel:=Fr.toBelow hE
 exact ⟨_,rfl,_,_,_,[],_,[],hW',trodAll_mk1 (shut_bool Tryz.underlying4 _),(trodAll_cons_mk (shut_surd w0) (trodAll_cons_mk (shut_surd w1) trodAll_mk0)),(by first | rfl | simp),bel.frame _,fun h=>by cases h⟩
theorem surdNorm_named : Tryz.prog.funcNamed "sosopt/sosoptlaw11.SurdNorm" = some 9 := by kernel_rfl
theorem surdNorm_f1:(Rows.surdNormRow.inPlace == Tryz.pinned.checked.prog.inPlace 9)=true:=by kernel_rfl
theorem surdNorm_f2:(Rows.surdNormRow.unfollowed == Tryz.pinned.checked.prog.unfollowed 9)=true:=by kernel_rfl
theorem surdNorm_f3:(Rows.surdNormRow.recurses == Tryz.pinned.checked.prog.recurses 9)=true:=by kernel_rfl
theorem surdNorm_f4:(Rows.surdNormRow.named == Tryz.pinned.checked.prog.varsNamed 9)=true:=by kernel_rfl
set_option maxRecDepth 100000 in
theorem surdNorm_closed:joinedFacts Tryz.pinned.checked.prog 9 Tryz.f9 Rows.surdNormSpec Rows.surdNormRow=true:=by
 unfold joinedFacts
 rw [surdNorm_f1,surdNorm_f2,surdNorm_f3,surdNorm_f4]
 kernel_rfl
theorem surdNorm_inst:Tryz.f9.isInstance Tryz.pinned.checked.prog Rows.surdNormRow.origin Rows.surdNormRow.targs:=of_decide_eq_true (by kernel_rfl)
theorem surdNorm_wrap:Tryz.f9.isWrapper Tryz.pinned.checked.prog Rows.surdNormRow.wrapper Rows.surdNormRow.mainSum:=by unfold Func.isWrapper; first | (rw [if_pos (by decide +kernel)]; kernel_rfl) | (rw [if_neg (by decide +kernel)]; exact ⟨rfl,rfl⟩)
theorem surdNorm_row:Rows.SurdNormSaid :=
 OpenClaim.holds_of_wide 9 Tryz.f9 rfl rfl rfl rfl rfl rfl rfl ⟨rfl,rfl,rfl,rfl,rfl⟩ rfl rfl rfl rfl rfl surdNorm_named Tryz.func9 surdNorm_closed surdNorm_inst surdNorm_wrap
  (fun os started H enc _=>surdNorm_lifted os started H enc)
theorem surdNorm_wf:Rows.surdNormRow.wfByText (OpenSpec.ofChange Rows.surdNormSpec)=true:=by kernel_rfl
theorem surdNorm_main:Tryz.pinned.checked.prog.mainIs=some (Rows.surdNormCard.stood.harness.1,Rows.surdNormCard.stood.harness.2.toList):=by kernel_rfl
theorem surdNorm_looks:true=Tryz.pinned.checked.prog.looks []:=by kernel_rfl
theorem surdNorm_goes:false=Rows.surdNormRow.goesBy Tryz.pinned.checked.prog:=by kernel_rfl
theorem surdNorm_stand:([23,23].all fun u => !Tryz.prog.wantsStandIn u)=true:=by kernel_rfl
theorem surdNorm_card:Rows.SurdNormCardSaid :=
 Claim7.holds_tied_plain_at .later [] [.data, .data, .data] true Rows.surdNormCard.stood.harness true
  surdNorm_row (fun _ h=>by cases h) surdNorm_wf (fun _ h=>by cases h) surdNorm_row_tie rfl ⟨rfl,rfl⟩ surdNorm_main rfl
  (fun f fn hf hfn=>by
   obtain rfl:f=9:=Option.some.inj ((surdNorm_named).symm.trans hf) |>.symm
   obtain rfl:fn=Tryz.f9:=(Option.some.inj (Tryz.func9.symm.trans hfn)).symm
   exact ⟨surdNorm_looks,fun j t ht=>by
    rw [Tryz.params9] at ht
    have hm:t ∈ [23,23]:=by simpa using Array.mem_of_getElem? ht
    exact (show Tryz.prog.wantsStandIn t=false by simpa using List.all_eq_true.1 surdNorm_stand t hm)⟩)
  surdNorm_goes
#print axioms surdNorm_card
end Go.Proofs.YtbgkofgoeoiciaaGreatDoor
