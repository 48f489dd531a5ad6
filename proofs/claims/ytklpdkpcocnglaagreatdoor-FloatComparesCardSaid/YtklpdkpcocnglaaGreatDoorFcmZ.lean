/-
 My texts FcmP put together.
-/
import Derived.Test.YtklpdkpcocnglaaGreatDoorV09
import Derived.Test.YtklpdkpcocnglaaGreatDoorV10
import Derived.Test.YtklpdkpcocnglaaGreatDoorV20
import Derived.Test.YtklpdkpcocnglaaGreatDoorTie
import Derived.Test.YtklpdkpcocnglaaGreatDoorCards
import Derived.SevenTiedAt
import Derived.ChangeOld
import Derived.Below
set_option maxRecDepth 100000
namespace Go.Proofs.YtklpdkpcocnglaaGreatDoor
open Go.ChangeShapes Go.WideShapes Go.ChangeAt Go.RowKit
open Go.ChangeMaps (open_string shut_string)
theorem Zpw:laidOutB Tryz.prog=true:=by kernel_rfl
theorem Zhv (os:Os) (started:os.Started) (H:Type) (enc:TypeId × Value→H) :
 ReturnsInHanded {} Tryz.checked os 7 .any (fun w args=>(Rows.floatComparesSpec.pre enc Tryz.prog Tryz.f7 [] false w args∧laidMetH Tryz.prog Zge w)∧sizedMet enc Tryz.prog Tryz.f7 (OpenSpec.ofChange Rows.floatComparesSpec) false w args)
  (Rows.floatComparesSpec.post enc Tryz.prog Tryz.f7 false true false false):=by
 refine returnsInHanded_of_change_and (C:=Tryz.checked) (X:=fun w _=>laidMetH Tryz.prog Zge w) (fun _ _ _ hh h=>h.of_heap hh) own started (by kernel_rfl) Tryz.func7
  (ChangeSpec.witness_shaped (enc:=enc) (C:=Tryz.checked) (os:=os) (X:=fun w _=>laidMetH Tryz.prog Zge w) false (World.doorLaid Tryz.prog 400 os) #[.agg #[.string ⟨#[]⟩, .int .i64 0], .agg #[.string ⟨#[]⟩, .int .i64 0]] 8 rfl (World.shaped_of_RefB (by kernel_rfl) (by kernel_rfl)) (by kernel_rfl) (by kernel_rfl) (by kernel_rfl) (Zls os _)) ?_
 intro W base args ds gs before hval0 hW _ _ hL _
 have hval:∀ (j:Nat) t v,Tryz.f7.params[j]? = some t→args[j]? = some v→Value.okWide Tryz.prog W .any base t v:=hval0
 have hW':=hW
 obtain ⟨p,q,hA0,hV,rfl,hfz,hnd⟩:=hW
 have hA:DataW.TrodAll enc Tryz.prog W 0 (fun _=>true) true Tryz.f7.params.toList args.toList ds p:=hA0
 rw [Tryz.params7] at hA hval
 obtain ⟨v0,vs0,d0,ds0,p0,q0,hargs,rfl,rfl,h0,r0⟩:=trodAll_cons hA
 obtain ⟨v1,vs1,d1,ds1,p1,q1,rfl,rfl,rfl,h1,r1⟩:=trodAll_cons r0
 obtain ⟨rfl,rfl,rfl⟩:=trodAll_nil r1
 obtain rfl:args=#[v0,v1]:=by cases args; simp_all
 obtain ⟨rfl,rfl⟩:=trodVars_none hV
 obtain ⟨a0,b0,rfl,rfl,rfl,w0⟩:=Zj4 (hval 0 24 v0 rfl rfl) h0
 obtain ⟨a1,b1,rfl,rfl,rfl,w1⟩:=Zj4 (hval 1 24 v1 rfl rfl) h1
 clear hA0 hval0
 simp only [List.append_nil] at hW'
 refine (Zi5 a0 a1 b0 b1 W (Zhy hL)).mono fun e W' ⟨he,Q⟩=>?_
 subst he
 have bel:=Fr.toBelow Q
 exact ⟨_,rfl,_,_,_,[],_,[],hW',trodAll_mk1 (shut_bool Tryz.underlying4 _),(trodAll_cons_mk (Zj5 w0) (trodAll_cons_mk (Zj5 w1) trodAll_mk0)),(by first | rfl | simp),bel.frame _,fun h=>by cases h⟩
theorem ZeM : Tryz.prog.funcNamed "sosopt/sosoptlaw23.FloatCompares" = some 7 := by kernel_rfl
theorem ZjM:(Rows.floatComparesRow.inPlace == Tryz.pinned.checked.prog.inPlace 7)=true:=by kernel_rfl
theorem ZjN:(Rows.floatComparesRow.unfollowed == Tryz.pinned.checked.prog.unfollowed 7)=true:=by kernel_rfl
theorem ZjO:(Rows.floatComparesRow.recurses == Tryz.pinned.checked.prog.recurses 7)=true:=by kernel_rfl
theorem ZjP:(Rows.floatComparesRow.named == Tryz.pinned.checked.prog.varsNamed 7)=true:=by kernel_rfl
theorem Zhw:joinedFacts Tryz.pinned.checked.prog 7 Tryz.f7 Rows.floatComparesSpec Rows.floatComparesRow=true:=by
 unfold joinedFacts
 rw [ZjM,ZjN,ZjO,ZjP]
 kernel_rfl
theorem Zit:Tryz.f7.isInstance Tryz.pinned.checked.prog Rows.floatComparesRow.origin Rows.floatComparesRow.targs:=of_decide_eq_true (by kernel_rfl)
theorem Ziu:Tryz.f7.isWrapper Tryz.pinned.checked.prog Rows.floatComparesRow.wrapper Rows.floatComparesRow.mainSum:=by unfold Func.isWrapper; first | (rw [if_pos (by decide +kernel)]; kernel_rfl) | (rw [if_neg (by decide +kernel)]; exact ⟨rfl,rfl⟩)
theorem Zi6:Rows.FloatComparesSaid :=
 OpenClaim.holds_of_wide 7 Tryz.f7 rfl rfl rfl rfl rfl rfl rfl ⟨rfl,rfl,rfl,rfl,rfl⟩ rfl rfl rfl rfl rfl ZeM Tryz.func7 Zhw Zit Ziu
  (fun os started H enc _=>Zhv os started H enc)
theorem ZjQ:Rows.floatComparesRow.wfByText (OpenSpec.ofChange Rows.floatComparesSpec)=true:=by kernel_rfl
theorem Ziv:Tryz.pinned.checked.prog.mainIs=some (Rows.floatComparesCard.stood.harness.1,Rows.floatComparesCard.stood.harness.2.toList):=by kernel_rfl
theorem ZhG:true=Tryz.pinned.checked.prog.looks []:=by kernel_rfl
theorem Ziw:false=Rows.floatComparesRow.goesBy Tryz.pinned.checked.prog:=by kernel_rfl
theorem ZhH:([24,24].all fun u => !Tryz.prog.wantsStandIn u)=true:=by kernel_rfl
theorem floatCompares_card:Rows.FloatComparesCardSaid :=
 Claim7.holds_tied_plain_at .later [] [.data, .data, .data, .sentinel, .sentinel] true Rows.floatComparesCard.stood.harness true
  Zi6 (fun _ h=>by cases h) ZjQ (fun _ h=>by cases h) floatCompares_row_tie rfl ⟨rfl,rfl⟩ Ziv rfl
  (fun f fn hf hfn=>by
   obtain rfl:f=7:=Option.some.inj ((ZeM).symm.trans hf) |>.symm
   obtain rfl:fn=Tryz.f7:=(Option.some.inj (Tryz.func7.symm.trans hfn)).symm
   exact ⟨ZhG,fun j t ht=>by
    rw [Tryz.params7] at ht
    have hm:t ∈ [24,24]:=by simpa using Array.mem_of_getElem? ht
    exact (show Tryz.prog.wantsStandIn t=false by simpa using List.all_eq_true.1 ZhH t hm)⟩)
  Ziw
#print axioms floatCompares_card
end Go.Proofs.YtklpdkpcocnglaaGreatDoor
