/-
 My texts RndP put together.
-/
import Derived.Test.YthlipnahcbcjkaaGreatDoorM09
import Derived.Test.YthlipnahcbcjkaaGreatDoorM23
import Derived.Test.YthlipnahcbcjkaaGreatDoorTie
import Derived.Test.YthlipnahcbcjkaaGreatDoorCards
import Derived.SevenTiedAt
import Derived.ChangeOld
import Derived.Below
set_option maxRecDepth 100000
namespace Go.Proofs.YthlipnahcbcjkaaGreatDoor
open Go.ChangeShapes Go.WideShapes Go.ChangeAt Go.RowKit
open Go.ChangeMaps (open_string shut_string)
theorem ZnO:laidOutB Tryz.prog=true:=by kernel_rfl
theorem Zf3 (os:Os) (started:os.Started) (H:Type) (enc:TypeId × Value→H) :
 ReturnsInHanded {} Tryz.checked os 5 .any (fun w args=>(Rows.rationalRoundingSpec.pre enc Tryz.prog Tryz.f5 [] false w args∧laidMetH Tryz.prog Zj6 w)∧sizedMet enc Tryz.prog Tryz.f5 (OpenSpec.ofChange Rows.rationalRoundingSpec) false w args)
  (Rows.rationalRoundingSpec.post enc Tryz.prog Tryz.f5 false true false false):=by
 refine returnsInHanded_of_change_and (C:=Tryz.checked) (X:=fun w _=>laidMetH Tryz.prog Zj6 w) (fun _ _ _ hh h=>h.of_heap hh) own started (by kernel_rfl) Tryz.func5
  (ChangeSpec.witness_shaped (enc:=enc) (C:=Tryz.checked) (os:=os) (X:=fun w _=>laidMetH Tryz.prog Zj6 w) false (World.doorLaid Tryz.prog 400 os) #[.string ⟨#[]⟩, .string ⟨#[]⟩] 8 rfl (World.shaped_of_RefB (by kernel_rfl) (by kernel_rfl)) (by kernel_rfl) (by kernel_rfl) (by kernel_rfl) (Zrn os _)) ?_
 intro W base args ds gs before hval0 hW _ _ hL _
 have hval:∀ (j:Nat) t v,Tryz.f5.params[j]? = some t→args[j]? = some v→Value.okWide Tryz.prog W .any base t v:=hval0
 have hW':=hW
 obtain ⟨p,q,hA0,hV,rfl,hfz,hnd⟩:=hW
 have hA:DataW.TrodAll enc Tryz.prog W 0 (fun _=>true) true Tryz.f5.params.toList args.toList ds p:=hA0
 rw [Tryz.params5] at hA hval
 obtain ⟨v0,vs0,d0,ds0,p0,q0,hargs,rfl,rfl,h0,r0⟩:=trodAll_cons hA
 obtain ⟨v1,vs1,d1,ds1,p1,q1,rfl,rfl,rfl,h1,r1⟩:=trodAll_cons r0
 obtain ⟨rfl,rfl,rfl⟩:=trodAll_nil r1
 obtain rfl:args=#[v0,v1]:=by cases args; simp_all
 obtain ⟨rfl,rfl⟩:=trodVars_none hV
 obtain ⟨a0,rfl,rfl,rfl,w0⟩:=open_string Tryz.underlying9 (hval 0 9 v0 rfl rfl) h0
 obtain ⟨a1,rfl,rfl,rfl,w1⟩:=open_string Tryz.underlying9 (hval 1 9 v1 rfl rfl) h1
 clear hA0 hval0
 simp only [List.append_nil] at hW'
 refine (Zhw a0 a1 W (ZmM hL)).mono fun e W' ⟨he,Q⟩=>?_
 subst he
 have bel:=Fr.toBelow Q
 exact ⟨_,rfl,_,_,_,[],_,[],hW',trodAll_mk1 (shut_bool Tryz.underlying4 _),(trodAll_cons_mk (shut_string Tryz.underlying9 w0) (trodAll_cons_mk (shut_string Tryz.underlying9 w1) trodAll_mk0)),(by first | rfl | simp),bel.frame _,fun h=>by cases h⟩
theorem Zeh : Tryz.prog.funcNamed "sosopt/sosoptlaw01.RationalRounding" = some 5 := by kernel_rfl
theorem ZhH:(Rows.rationalRoundingRow.inPlace == Tryz.pinned.checked.prog.inPlace 5)=true:=by kernel_rfl
theorem ZhI:(Rows.rationalRoundingRow.unfollowed == Tryz.pinned.checked.prog.unfollowed 5)=true:=by kernel_rfl
theorem ZhJ:(Rows.rationalRoundingRow.recurses == Tryz.pinned.checked.prog.recurses 5)=true:=by kernel_rfl
theorem ZhK:(Rows.rationalRoundingRow.named == Tryz.pinned.checked.prog.varsNamed 5)=true:=by kernel_rfl
theorem Zf4:joinedFacts Tryz.pinned.checked.prog 5 Tryz.f5 Rows.rationalRoundingSpec Rows.rationalRoundingRow=true:=by
 unfold joinedFacts
 rw [ZhH,ZhI,ZhJ,ZhK]
 kernel_rfl
theorem ZgQ:Tryz.f5.isInstance Tryz.pinned.checked.prog Rows.rationalRoundingRow.origin Rows.rationalRoundingRow.targs:=of_decide_eq_true (by kernel_rfl)
theorem ZgR:Tryz.f5.isWrapper Tryz.pinned.checked.prog Rows.rationalRoundingRow.wrapper Rows.rationalRoundingRow.mainSum:=by unfold Func.isWrapper; first | (rw [if_pos (by decide +kernel)]; kernel_rfl) | (rw [if_neg (by decide +kernel)]; exact ⟨rfl,rfl⟩)
theorem Zhx:Rows.RationalRoundingSaid :=
 OpenClaim.holds_of_wide 5 Tryz.f5 rfl rfl rfl rfl rfl rfl rfl ⟨rfl,rfl,rfl,rfl,rfl⟩ rfl rfl rfl rfl rfl Zeh Tryz.func5 Zf4 ZgQ ZgR
  (fun os started H enc _=>Zf3 os started H enc)
theorem ZhL:Rows.rationalRoundingRow.wfByText (OpenSpec.ofChange Rows.rationalRoundingSpec)=true:=by kernel_rfl
theorem ZgS:Tryz.pinned.checked.prog.mainIs=some (Rows.rationalRoundingCard.stood.harness.1,Rows.rationalRoundingCard.stood.harness.2.toList):=by kernel_rfl
theorem Zgv:true=Tryz.pinned.checked.prog.looks []:=by kernel_rfl
theorem ZgT:false=Rows.rationalRoundingRow.goesBy Tryz.pinned.checked.prog:=by kernel_rfl
theorem Zgw:([9,9].all fun u => !Tryz.prog.wantsStandIn u)=true:=by kernel_rfl
theorem rationalRounding_card:Rows.RationalRoundingCardSaid :=
 Claim7.holds_tied_plain_at .later [] [.data, .data, .data] true Rows.rationalRoundingCard.stood.harness true
  Zhx (fun _ h=>by cases h) ZhL (fun _ h=>by cases h) rationalRounding_row_tie rfl ⟨rfl,rfl⟩ ZgS rfl
  (fun f fn hf hfn=>by
   obtain rfl:f=5:=Option.some.inj ((Zeh).symm.trans hf) |>.symm
   obtain rfl:fn=Tryz.f5:=(Option.some.inj (Tryz.func5.symm.trans hfn)).symm
   exact ⟨Zgv,fun j t ht=>by
    rw [Tryz.params5] at ht
    have hm:t ∈ [9,9]:=by simpa using Array.mem_of_getElem? ht
    exact (show Tryz.prog.wantsStandIn t=false by simpa using List.all_eq_true.1 Zgw t hm)⟩)
  ZgT
#print axioms rationalRounding_card
end Go.Proofs.YthlipnahcbcjkaaGreatDoor
