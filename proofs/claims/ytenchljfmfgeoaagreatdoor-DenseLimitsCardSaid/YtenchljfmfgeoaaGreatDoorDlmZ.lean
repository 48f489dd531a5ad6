/-
  DenseLimits: Matrices with more than MaxBlock rows or columns are refused by Round, and the others are rounded to valid ones; the law returns true and its arguments read as before.
  Conditions: the listed tables of the library hold what the program's text lays there (the card ties them).
-/
import Derived.Test.YtenchljfmfgeoaaGreatDoorL09
import Derived.Test.YtenchljfmfgeoaaGreatDoorL24
import Derived.Test.YtenchljfmfgeoaaGreatDoorTie
import Derived.Test.YtenchljfmfgeoaaGreatDoorCards
import Derived.SevenTiedAt
import Derived.ChangeOld
import Derived.Below
set_option maxRecDepth 100000
namespace Go.Proofs.YtenchljfmfgeoaaGreatDoor
open Go.ChangeShapes Go.WideShapes Go.ChangeAt Go.RowKit
open Go.ChangeMaps (open_string shut_string)
theorem Zn5:laidOutB Tryz.prog=true:=by kernel_rfl
theorem Zhx (os:Os) (started:os.Started) (H:Type) (enc:TypeId × Value→H) :
 ReturnsInHanded {} Tryz.checked os 4 .any (fun w args=>(Rows.denseLimitsSpec.pre enc Tryz.prog Tryz.f4 [] false w args∧laidMetH Tryz.prog ZiB w)∧sizedMet enc Tryz.prog Tryz.f4 (OpenSpec.ofChange Rows.denseLimitsSpec) false w args)
  (Rows.denseLimitsSpec.post enc Tryz.prog Tryz.f4 false true false false):=by
 refine returnsInHanded_of_change_and (C:=Tryz.checked) (X:=fun w _=>laidMetH Tryz.prog ZiB w) (fun _ _ _ hh h=>h.of_heap hh) own started (by kernel_rfl) Tryz.func4
  (ChangeSpec.witness_shaped (enc:=enc) (C:=Tryz.checked) (os:=os) (X:=fun w _=>laidMetH Tryz.prog ZiB w) false (World.doorLaid Tryz.prog 400 os) #[.int .i64 0, .int .i64 0] 8 rfl (World.shaped_of_RefB (by kernel_rfl) (by kernel_rfl)) (by kernel_rfl) (by kernel_rfl) (by kernel_rfl) (Zof os _)) ?_
 intro W base args ds gs before hval0 hW _ _ hL _
 have hval:∀ (j:Nat) t v,Tryz.f4.params[j]? = some t→args[j]? = some v→Value.okWide Tryz.prog W .any base t v:=hval0
 have hW':=hW
 obtain ⟨p,q,hA0,hV,rfl,hfz,hnd⟩:=hW
 have hA:DataW.TrodAll enc Tryz.prog W 0 (fun _=>true) true Tryz.f4.params.toList args.toList ds p:=hA0
 rw [Tryz.params4] at hA hval
 obtain ⟨v0,vs0,d0,ds0,p0,q0,hargs,rfl,rfl,h0,r0⟩:=trodAll_cons hA
 obtain ⟨v1,vs1,d1,ds1,p1,q1,rfl,rfl,rfl,h1,r1⟩:=trodAll_cons r0
 obtain ⟨rfl,rfl,rfl⟩:=trodAll_nil r1
 obtain rfl:args=#[v0,v1]:=by cases args; simp_all
 obtain ⟨rfl,rfl⟩:=trodVars_none hV
 obtain ⟨a0,rfl,rfl,rfl,w0⟩:=open_int Tryz.underlying3 (hval 0 3 v0 rfl rfl) h0
 obtain ⟨a1,rfl,rfl,rfl,w1⟩:=open_int Tryz.underlying3 (hval 1 3 v1 rfl rfl) h1
 clear hA0 hval0
 simp only [List.append_nil] at hW'
 refine (Zjf a0 a1 W (Zkk hL)).mono fun e W' ⟨he,Q⟩=>?_
 subst he
 have bel:=Fr.toBelow Q
 exact ⟨_,rfl,_,_,_,[],_,[],hW',trodAll_mk1 (shut_bool Tryz.underlying4 _),(trodAll_cons_mk (shut_int Tryz.underlying3 w0) (trodAll_cons_mk (shut_int Tryz.underlying3 w1) trodAll_mk0)),(by first | rfl | simp),bel.frame _,fun h=>by cases h⟩
theorem ZeD : Tryz.prog.funcNamed "sosopt/sosoptlaw24.DenseLimits" = some 4 := by kernel_rfl
theorem ZjH:(Rows.denseLimitsRow.inPlace == Tryz.pinned.checked.prog.inPlace 4)=true:=by kernel_rfl
theorem ZjI:(Rows.denseLimitsRow.unfollowed == Tryz.pinned.checked.prog.unfollowed 4)=true:=by kernel_rfl
theorem ZjJ:(Rows.denseLimitsRow.recurses == Tryz.pinned.checked.prog.recurses 4)=true:=by kernel_rfl
theorem ZjK:(Rows.denseLimitsRow.named == Tryz.pinned.checked.prog.varsNamed 4)=true:=by kernel_rfl
theorem Zhy:joinedFacts Tryz.pinned.checked.prog 4 Tryz.f4 Rows.denseLimitsSpec Rows.denseLimitsRow=true:=by
 unfold joinedFacts
 rw [ZjH,ZjI,ZjJ,ZjK]
 kernel_rfl
theorem Ziq:Tryz.f4.isInstance Tryz.pinned.checked.prog Rows.denseLimitsRow.origin Rows.denseLimitsRow.targs:=of_decide_eq_true (by kernel_rfl)
theorem Zir:Tryz.f4.isWrapper Tryz.pinned.checked.prog Rows.denseLimitsRow.wrapper Rows.denseLimitsRow.mainSum:=by unfold Func.isWrapper; first | (rw [if_pos (by decide +kernel)]; kernel_rfl) | (rw [if_neg (by decide +kernel)]; exact ⟨rfl,rfl⟩)
theorem Zjg:Rows.DenseLimitsSaid :=
 OpenClaim.holds_of_wide 4 Tryz.f4 rfl rfl rfl rfl rfl rfl rfl ⟨rfl,rfl,rfl,rfl,rfl⟩ rfl rfl rfl rfl rfl ZeD Tryz.func4 Zhy Ziq Zir
  (fun os started H enc _=>Zhx os started H enc)
theorem ZjL:Rows.denseLimitsRow.wfByText (OpenSpec.ofChange Rows.denseLimitsSpec)=true:=by kernel_rfl
theorem Zis:Tryz.pinned.checked.prog.mainIs=some (Rows.denseLimitsCard.stood.harness.1,Rows.denseLimitsCard.stood.harness.2.toList):=by kernel_rfl
theorem ZhV:true=Tryz.pinned.checked.prog.looks []:=by kernel_rfl
theorem Zit:false=Rows.denseLimitsRow.goesBy Tryz.pinned.checked.prog:=by kernel_rfl
theorem ZhW:([3,3].all fun u => !Tryz.prog.wantsStandIn u)=true:=by kernel_rfl
theorem denseLimits_card:Rows.DenseLimitsCardSaid :=
 Claim7.holds_tied_plain_at .later [] [.data, .data, .data, .sentinel, .sentinel] true Rows.denseLimitsCard.stood.harness true
  Zjg (fun _ h=>by cases h) ZjL (fun _ h=>by cases h) denseLimits_row_tie rfl ⟨rfl,rfl⟩ Zis rfl
  (fun f fn hf hfn=>by
   obtain rfl:f=4:=Option.some.inj ((ZeD).symm.trans hf) |>.symm
   obtain rfl:fn=Tryz.f4:=(Option.some.inj (Tryz.func4.symm.trans hfn)).symm
   exact ⟨ZhV,fun j t ht=>by
    rw [Tryz.params4] at ht
    have hm:t ∈ [3,3]:=by simpa using Array.mem_of_getElem? ht
    exact (show Tryz.prog.wantsStandIn t=false by simpa using List.all_eq_true.1 ZhW t hm)⟩)
  Zit
#print axioms denseLimits_card
end Go.Proofs.YtenchljfmfgeoaaGreatDoor
