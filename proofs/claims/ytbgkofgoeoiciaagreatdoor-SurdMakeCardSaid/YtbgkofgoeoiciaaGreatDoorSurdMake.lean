/-
 My texts SkP put together.
-/
import Derived.Test.YtbgkofgoeoiciaaGreatDoorQ09
import Derived.Test.YtbgkofgoeoiciaaGreatDoorQ23
import Derived.Test.YtbgkofgoeoiciaaGreatDoorQ24
import Derived.Test.YtbgkofgoeoiciaaGreatDoorTie
import Derived.Test.YtbgkofgoeoiciaaGreatDoorCards
import Derived.SevenTiedAt
import Derived.ChangeOld
import Derived.Below
namespace Go.Proofs.YtbgkofgoeoiciaaGreatDoor
open Go.ChangeShapes Go.WideShapes Go.ChangeAt Go.RowKit
open Go.ChangeMaps (open_string shut_string)
theorem surdMake_laidOut:laidOutB Tryz.prog=true:=by kernel_rfl
set_option maxRecDepth 100000 in
theorem surdMake_lifted (os:Os) (started:os.Started) (H:Type) (enc:TypeId × Value→H) :
 ReturnsInHanded {} Tryz.checked os 3 .any (fun w args=>(Rows.surdMakeSpec.pre enc Tryz.prog Tryz.f3 [] false w args∧laidMetH Tryz.prog laid3 w)∧sizedMet enc Tryz.prog Tryz.f3 (OpenSpec.ofChange Rows.surdMakeSpec) false w args)
  (Rows.surdMakeSpec.post enc Tryz.prog Tryz.f3 false true false false):=by
 refine returnsInHanded_of_change_and (C:=Tryz.checked) (X:=fun w _=>laidMetH Tryz.prog laid3 w) (fun _ _ _ hh h=>h.of_heap hh) own started (by kernel_rfl) Tryz.func3
  (ChangeSpec.witness_shaped (enc:=enc) (C:=Tryz.checked) (os:=os) (X:=fun w _=>laidMetH Tryz.prog laid3 w) false (World.doorLaid Tryz.prog 400 os) #[.agg #[.string ⟨#[]⟩, .string ⟨#[]⟩, .int .i64 0], .string ⟨#[]⟩, .string ⟨#[]⟩, .int .i64 0] 8 rfl (World.shaped_of_RefB (by kernel_rfl) (by kernel_rfl)) (by kernel_rfl) (by kernel_rfl) (by kernel_rfl) (door_met os _)) ?_
 intro W base args ds gs before hval0 hW _ _ hL _
 have hval:∀ (j:Nat) t v,Tryz.f3.params[j]? = some t→args[j]? = some v→Value.okWide Tryz.prog W .any base t v:=hval0
 have hW':=hW
 obtain ⟨p,q,hA0,hV,rfl,hfz,hnd⟩:=hW
 have hA:DataW.TrodAll enc Tryz.prog W 0 (fun _=>true) true Tryz.f3.params.toList args.toList ds p:=hA0
 rw [Tryz.params3] at hA hval
 obtain ⟨v0,vs0,d0,ds0,p0,q0,hargs,rfl,rfl,h0,r0⟩:=trodAll_cons hA
 obtain ⟨v1,vs1,d1,ds1,p1,q1,rfl,rfl,rfl,h1,r1⟩:=trodAll_cons r0
 obtain ⟨v2,vs2,d2,ds2,p2,q2,rfl,rfl,rfl,h2,r2⟩:=trodAll_cons r1
 obtain ⟨v3,vs3,d3,ds3,p3,q3,rfl,rfl,rfl,h3,r3⟩:=trodAll_cons r2
 obtain ⟨rfl,rfl,rfl⟩:=trodAll_nil r3
 obtain rfl:args=#[v0,v1,v2,v3]:=by cases args; simp_all
 obtain ⟨rfl,rfl⟩:=trodVars_none hV
 obtain ⟨a0,b0,c0,rfl,rfl,rfl,w0⟩:=open_surd (hval 0 23 v0 rfl rfl) h0
 obtain ⟨a1,rfl,rfl,rfl,w1⟩:=open_string Tryz.underlying9 (hval 1 9 v1 rfl rfl) h1
 obtain ⟨a2,rfl,rfl,rfl,w2⟩:=open_string Tryz.underlying9 (hval 2 9 v2 rfl rfl) h2
 obtain ⟨a3,rfl,rfl,rfl,w3⟩:=open_int Tryz.underlying3 (hval 3 3 v3 rfl rfl) h3
 clear hA0 hval0
 simp only [List.append_nil] at hW'
 refine (surdMake_any a0 b0 c0 a1 a2 a3 W (glob_of_laid hL)).mono fun e W' ⟨he,hE⟩=>?_
 subst he
 have bel:=Fr.toBelow hE
 exact ⟨_,rfl,_,_,_,[],_,[],hW',trodAll_mk1 (shut_bool Tryz.underlying4 _),(trodAll_cons_mk (shut_surd w0) (trodAll_cons_mk (shut_string Tryz.underlying9 w1) (trodAll_cons_mk (shut_string Tryz.underlying9 w2) (trodAll_cons_mk (shut_int Tryz.underlying3 w3) trodAll_mk0)))),(by first | rfl | simp),bel.frame _,fun h=>by cases h⟩
theorem surdMake_named : Tryz.prog.funcNamed "sosopt/sosoptlaw11.SurdMake" = some 3 := by kernel_rfl
theorem surdMake_f1:(Rows.surdMakeRow.inPlace == Tryz.pinned.checked.prog.inPlace 3)=true:=by kernel_rfl
theorem surdMake_f2:(Rows.surdMakeRow.unfollowed == Tryz.pinned.checked.prog.unfollowed 3)=true:=by kernel_rfl
theorem surdMake_f3:(Rows.surdMakeRow.recurses == Tryz.pinned.checked.prog.recurses 3)=true:=by kernel_rfl
theorem surdMake_f4:(Rows.surdMakeRow.named == Tryz.pinned.checked.prog.varsNamed 3)=true:=by kernel_rfl
set_option maxRecDepth 100000 in
theorem surdMake_closed:joinedFacts Tryz.pinned.checked.prog 3 Tryz.f3 Rows.surdMakeSpec Rows.surdMakeRow=true:=by
 unfold joinedFacts
 rw [surdMake_f1,surdMake_f2,surdMake_f3,surdMake_f4]
 kernel_rfl
theorem surdMake_inst:Tryz.f3.isInstance Tryz.pinned.checked.prog Rows.surdMakeRow.origin Rows.surdMakeRow.targs:=of_decide_eq_true (by kernel_rfl)
theorem surdMake_wrap:Tryz.f3.isWrapper Tryz.pinned.checked.prog Rows.surdMakeRow.wrapper Rows.surdMakeRow.mainSum:=by unfold Func.isWrapper; first | (rw [if_pos (by decide +kernel)]; kernel_rfl) | (rw [if_neg (by decide +kernel)]; exact ⟨rfl,rfl⟩)
theorem surdMake_row:Rows.SurdMakeSaid :=
 OpenClaim.holds_of_wide 3 Tryz.f3 rfl rfl rfl rfl rfl rfl rfl ⟨rfl,rfl,rfl,rfl,rfl⟩ rfl rfl rfl rfl rfl surdMake_named Tryz.func3 surdMake_closed surdMake_inst surdMake_wrap
  (fun os started H enc _=>surdMake_lifted os started H enc)
theorem surdMake_wf:Rows.surdMakeRow.wfByText (OpenSpec.ofChange Rows.surdMakeSpec)=true:=by kernel_rfl
theorem surdMake_main:Tryz.pinned.checked.prog.mainIs=some (Rows.surdMakeCard.stood.harness.1,Rows.surdMakeCard.stood.harness.2.toList):=by kernel_rfl
theorem surdMake_looks:true=Tryz.pinned.checked.prog.looks []:=by kernel_rfl
theorem surdMake_goes:false=Rows.surdMakeRow.goesBy Tryz.pinned.checked.prog:=by kernel_rfl
theorem surdMake_stand:([23,9,9,3].all fun u => !Tryz.prog.wantsStandIn u)=true:=by kernel_rfl
theorem surdMake_card:Rows.SurdMakeCardSaid :=
 Claim7.holds_tied_plain_at .later [] [.data, .data, .data] true Rows.surdMakeCard.stood.harness true
  surdMake_row (fun _ h=>by cases h) surdMake_wf (fun _ h=>by cases h) surdMake_row_tie rfl ⟨rfl,rfl⟩ surdMake_main rfl
  (fun f fn hf hfn=>by
   obtain rfl:f=3:=Option.some.inj ((surdMake_named).symm.trans hf) |>.symm
   obtain rfl:fn=Tryz.f3:=(Option.some.inj (Tryz.func3.symm.trans hfn)).symm
   exact ⟨surdMake_looks,fun j t ht=>by
    rw [Tryz.params3] at ht
    have hm:t ∈ [23,9,9,3]:=by simpa using Array.mem_of_getElem? ht
    exact (show Tryz.prog.wantsStandIn t=false by simpa using List.all_eq_true.1 surdMake_stand t hm)⟩)
  surdMake_goes
#print axioms surdMake_card
end Go.Proofs.YtbgkofgoeoiciaaGreatDoor
