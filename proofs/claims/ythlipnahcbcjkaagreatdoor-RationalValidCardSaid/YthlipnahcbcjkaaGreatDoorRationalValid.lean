/-
 My texts RvP put together.
-/
import Derived.Test.YthlipnahcbcjkaaGreatDoorM28
import Derived.Test.YthlipnahcbcjkaaGreatDoorM32
import Derived.Test.YthlipnahcbcjkaaGreatDoorTie
import Derived.Test.YthlipnahcbcjkaaGreatDoorCards
import Derived.SevenTiedAt
import Derived.ChangeOld
import Derived.Below
set_option maxRecDepth 100000
namespace Go.Proofs.YthlipnahcbcjkaaGreatDoor
open Go.ChangeShapes Go.WideShapes Go.ChangeAt Go.RowKit
open Go.ChangeMaps (open_string shut_string)
theorem ZoX:laidOutB Tryz.prog=true:=by kernel_rfl
theorem Zhz (os:Os) (started:os.Started) (H:Type) (enc:TypeId × Value→H) :
 ReturnsInHanded {} Tryz.checked os 8 .any (fun w args=>(Rows.rationalValidSpec.pre enc Tryz.prog Tryz.f8 [] false w args∧laidMetH Tryz.prog ZiP w)∧sizedMet enc Tryz.prog Tryz.f8 (OpenSpec.ofChange Rows.rationalValidSpec) false w args)
  (Rows.rationalValidSpec.post enc Tryz.prog Tryz.f8 false true false false):=by
 refine returnsInHanded_of_change_and (C:=Tryz.checked) (X:=fun w _=>laidMetH Tryz.prog ZiP w) (fun _ _ _ hh h=>h.of_heap hh) own started (by kernel_rfl) Tryz.func8
  (ChangeSpec.witness_shaped (enc:=enc) (C:=Tryz.checked) (os:=os) (X:=fun w _=>laidMetH Tryz.prog ZiP w) false (World.doorLaid Tryz.prog 400 os) #[.string ⟨#[]⟩, .int .i64 0] 8 rfl (World.shaped_of_RefB (by kernel_rfl) (by kernel_rfl)) (by kernel_rfl) (by kernel_rfl) (by kernel_rfl) (Zrf os _)) ?_
 intro W base args ds gs before hval0 hW _ _ hL _
 have hval:∀ (j:Nat) t v,Tryz.f8.params[j]? = some t→args[j]? = some v→Value.okWide Tryz.prog W .any base t v:=hval0
 have hW':=hW
 obtain ⟨p,q,hA0,hV,rfl,hfz,hnd⟩:=hW
 have hA:DataW.TrodAll enc Tryz.prog W 0 (fun _=>true) true Tryz.f8.params.toList args.toList ds p:=hA0
 rw [Tryz.params8] at hA hval
 obtain ⟨v0,vs0,d0,ds0,p0,q0,hargs,rfl,rfl,h0,r0⟩:=trodAll_cons hA
 obtain ⟨v1,vs1,d1,ds1,p1,q1,rfl,rfl,rfl,h1,r1⟩:=trodAll_cons r0
 obtain ⟨rfl,rfl,rfl⟩:=trodAll_nil r1
 obtain rfl:args=#[v0,v1]:=by cases args; simp_all
 obtain ⟨rfl,rfl⟩:=trodVars_none hV
 obtain ⟨a0,rfl,rfl,rfl,w0⟩:=open_string Tryz.underlying9 (hval 0 9 v0 rfl rfl) h0
 obtain ⟨a1,rfl,rfl,rfl,w1⟩:=open_int Tryz.underlying2 (hval 1 2 v1 rfl rfl) h1
 clear hA0 hval0
 simp only [List.append_nil] at hW'
 refine (Zi1 a0 a1 W (Zmy hL) (ZnR hL) (bounds_i64 w1).1 (bounds_i64 w1).2).mono fun e W' ⟨he,Q⟩=>?_
 subst he
 have bel:=Fr.toBelow Q
 exact ⟨_,rfl,_,_,_,[],_,[],hW',trodAll_mk1 (shut_bool Tryz.underlying4 _),(trodAll_cons_mk (shut_string Tryz.underlying9 w0) (trodAll_cons_mk (shut_int Tryz.underlying2 w1) trodAll_mk0)),(by first | rfl | simp),bel.frame _,fun h=>by cases h⟩
theorem ZeR : Tryz.prog.funcNamed "sosopt/sosoptlaw01.RationalValid" = some 8 := by kernel_rfl
theorem ZjR:(Rows.rationalValidRow.inPlace == Tryz.pinned.checked.prog.inPlace 8)=true:=by kernel_rfl
theorem ZjS:(Rows.rationalValidRow.unfollowed == Tryz.pinned.checked.prog.unfollowed 8)=true:=by kernel_rfl
theorem ZjT:(Rows.rationalValidRow.recurses == Tryz.pinned.checked.prog.recurses 8)=true:=by kernel_rfl
theorem ZjU:(Rows.rationalValidRow.named == Tryz.pinned.checked.prog.varsNamed 8)=true:=by kernel_rfl
theorem ZhA:joinedFacts Tryz.pinned.checked.prog 8 Tryz.f8 Rows.rationalValidSpec Rows.rationalValidRow=true:=by
 unfold joinedFacts
 rw [ZjR,ZjS,ZjT,ZjU]
 kernel_rfl
theorem Zit:Tryz.f8.isInstance Tryz.pinned.checked.prog Rows.rationalValidRow.origin Rows.rationalValidRow.targs:=of_decide_eq_true (by kernel_rfl)
theorem Ziu:Tryz.f8.isWrapper Tryz.pinned.checked.prog Rows.rationalValidRow.wrapper Rows.rationalValidRow.mainSum:=by unfold Func.isWrapper; first | (rw [if_pos (by decide +kernel)]; kernel_rfl) | (rw [if_neg (by decide +kernel)]; exact ⟨rfl,rfl⟩)
theorem Zi2:Rows.RationalValidSaid :=
 OpenClaim.holds_of_wide 8 Tryz.f8 rfl rfl rfl rfl rfl rfl rfl ⟨rfl,rfl,rfl,rfl,rfl⟩ rfl rfl rfl rfl rfl ZeR Tryz.func8 ZhA Zit Ziu
  (fun os started H enc _=>Zhz os started H enc)
theorem ZjV:Rows.rationalValidRow.wfByText (OpenSpec.ofChange Rows.rationalValidSpec)=true:=by kernel_rfl
theorem Ziv:Tryz.pinned.checked.prog.mainIs=some (Rows.rationalValidCard.stood.harness.1,Rows.rationalValidCard.stood.harness.2.toList):=by kernel_rfl
theorem ZhM:true=Tryz.pinned.checked.prog.looks []:=by kernel_rfl
theorem Ziw:false=Rows.rationalValidRow.goesBy Tryz.pinned.checked.prog:=by kernel_rfl
theorem ZhN:([9,2].all fun u => !Tryz.prog.wantsStandIn u)=true:=by kernel_rfl
theorem rationalValid_card:Rows.RationalValidCardSaid :=
 Claim7.holds_tied_plain_at .later [] [.data, .data, .data, .sentinel, .sentinel] true Rows.rationalValidCard.stood.harness true
  Zi2 (fun _ h=>by cases h) ZjV (fun _ h=>by cases h) rationalValid_row_tie rfl ⟨rfl,rfl⟩ Ziv rfl
  (fun f fn hf hfn=>by
   obtain rfl:f=8:=Option.some.inj ((ZeR).symm.trans hf) |>.symm
   obtain rfl:fn=Tryz.f8:=(Option.some.inj (Tryz.func8.symm.trans hfn)).symm
   exact ⟨ZhM,fun j t ht=>by
    rw [Tryz.params8] at ht
    have hm:t ∈ [9,2]:=by simpa using Array.mem_of_getElem? ht
    exact (show Tryz.prog.wantsStandIn t=false by simpa using List.all_eq_true.1 ZhN t hm)⟩)
  Ziw
#print axioms rationalValid_card
end Go.Proofs.YthlipnahcbcjkaaGreatDoor
