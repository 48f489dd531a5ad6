/-
 My texts FnrP put together.
-/
import Derived.Test.YtklpdkpcocnglaaGreatDoorX09
import Derived.Test.YtklpdkpcocnglaaGreatDoorX31
import Derived.Test.YtklpdkpcocnglaaGreatDoorTie
import Derived.Test.YtklpdkpcocnglaaGreatDoorCards
import Derived.SevenTiedAt
import Derived.ChangeOld
import Derived.Below
import Derived.SizedLaws
set_option maxRecDepth 100000
set_option maxHeartbeats 8000000
namespace Go.Proofs.YtklpdkpcocnglaaGreatDoor
open Go.ChangeShapes Go.WideShapes Go.ChangeAt Go.RowKit
open Go.ChangeMaps (open_string shut_string)
theorem ZoP:laidOutB Tryz.prog=true:=by kernel_rfl
theorem ZfX (os:Os) (started:os.Started) (H:Type) (enc:TypeId × Value→H) :
 ReturnsInHanded {} Tryz.checked os 4 .any (fun w args=>(Rows.floatNearSpec.pre enc Tryz.prog Tryz.f4 [] false w args∧laidMetH Tryz.prog dR w)∧sizedMet enc Tryz.prog Tryz.f4 (OpenSpec.ofChange Rows.floatNearSpec) false w args)
  (Rows.floatNearSpec.post enc Tryz.prog Tryz.f4 false true false false):=by
 refine returnsInHanded_of_change_and (C:=Tryz.checked) (X:=fun w _=>laidMetH Tryz.prog dR w) (fun _ _ _ hh h=>h.of_heap hh) own started (by kernel_rfl) Tryz.func4
  (ChangeSpec.witness_shaped (enc:=enc) (C:=Tryz.checked) (os:=os) (X:=fun w _=>laidMetH Tryz.prog dR w) false (World.doorLaid Tryz.prog 400 os) #[.string ⟨#[]⟩, .int .i64 0] 8 rfl (World.shaped_of_RefB (by kernel_rfl) (by kernel_rfl)) (by kernel_rfl) (by kernel_rfl) (by kernel_rfl) (Zb4 os _)) ?_
 intro W base args ds gs before hval0 hW _ hsz0 hL _
 have hval:∀ (j:Nat) t v,Tryz.f4.params[j]? = some t→args[j]? = some v→Value.okWide Tryz.prog W .any base t v:=hval0
 have hW':=hW
 obtain ⟨p,q,hA0,hV,rfl,hfz,hnd⟩:=hW
 have hA:DataW.TrodAll enc Tryz.prog W 0 (fun _=>true) true Tryz.f4.params.toList args.toList ds p:=hA0
 rw [Tryz.params4] at hA hval
 obtain ⟨v0,vs0,d0,ds0,p0,q0,hargs,rfl,rfl,h0,r0⟩:=trodAll_cons hA
 obtain ⟨v1,vs1,d1,ds1,p1,q1,rfl,rfl,rfl,h1,r1⟩:=trodAll_cons r0
 obtain ⟨rfl,rfl,rfl⟩:=trodAll_nil r1
 obtain rfl:args=#[v0,v1]:=by cases args; simp_all
 obtain ⟨rfl,rfl⟩:=trodVars_none hV
 obtain ⟨a0,rfl,rfl,rfl,w0⟩:=open_string Tryz.underlying9 (hval 0 9 v0 rfl rfl) h0
 obtain ⟨a1,rfl,rfl,rfl,w1⟩:=open_int Tryz.underlying3 (hval 1 3 v1 rfl rfl) h1
 have hs0:a0.size≤140737488351232:=by
  have h:=sized_string (j:=0) (t:=9) hsz0 (by rw [Tryz.params4]; rfl) rfl
  exact h
 clear hA0 hval0
 simp only [List.append_nil] at hW'
 refine (ZiX a0 a1 W (bW hL) hs0).mono fun e W' ⟨he,Q⟩=>?_
 subst he
 have bel:=Fr.toBelow Q
 exact ⟨_,rfl,_,_,_,[],_,[],hW',trodAll_mk1 (shut_bool Tryz.underlying4 _),(trodAll_cons_mk (shut_string Tryz.underlying9 w0) (trodAll_cons_mk (shut_int Tryz.underlying3 w1) trodAll_mk0)),(by first | rfl | simp),bel.frame _,fun h=>by cases h⟩
theorem Zcq : Tryz.prog.funcNamed "sosopt/sosoptlaw23.FloatNear" = some 4 := by kernel_rfl
theorem Zkq:(Rows.floatNearRow.inPlace == Tryz.pinned.checked.prog.inPlace 4)=true:=by kernel_rfl
theorem Zkr:(Rows.floatNearRow.unfollowed == Tryz.pinned.checked.prog.unfollowed 4)=true:=by kernel_rfl
theorem Zks:(Rows.floatNearRow.recurses == Tryz.pinned.checked.prog.recurses 4)=true:=by kernel_rfl
theorem Zkt:(Rows.floatNearRow.named == Tryz.pinned.checked.prog.varsNamed 4)=true:=by kernel_rfl
theorem ZfY:joinedFacts Tryz.pinned.checked.prog 4 Tryz.f4 Rows.floatNearSpec Rows.floatNearRow=true:=by
 unfold joinedFacts
 rw [Zkq,Zkr,Zks,Zkt]
 kernel_rfl
theorem ZhM:Tryz.f4.isInstance Tryz.pinned.checked.prog Rows.floatNearRow.origin Rows.floatNearRow.targs:=of_decide_eq_true (by kernel_rfl)
theorem ZhN:Tryz.f4.isWrapper Tryz.pinned.checked.prog Rows.floatNearRow.wrapper Rows.floatNearRow.mainSum:=by unfold Func.isWrapper; first | (rw [if_pos (by decide +kernel)]; kernel_rfl) | (rw [if_neg (by decide +kernel)]; exact ⟨rfl,rfl⟩)
theorem ZiY:Rows.FloatNearSaid :=
 OpenClaim.holds_of_wide 4 Tryz.f4 rfl rfl rfl rfl rfl rfl rfl ⟨rfl,rfl,rfl,rfl,rfl⟩ rfl rfl rfl rfl rfl Zcq Tryz.func4 ZfY ZhM ZhN
  (fun os started H enc _=>ZfX os started H enc)
theorem Zku:Rows.floatNearRow.wfByText (OpenSpec.ofChange Rows.floatNearSpec)=true:=by kernel_rfl
theorem ZhO:Tryz.pinned.checked.prog.mainIs=some (Rows.floatNearCard.stood.harness.1,Rows.floatNearCard.stood.harness.2.toList):=by kernel_rfl
theorem Zg3:true=Tryz.pinned.checked.prog.looks []:=by kernel_rfl
theorem ZhP:false=Rows.floatNearRow.goesBy Tryz.pinned.checked.prog:=by kernel_rfl
theorem Zg4:([9,3].all fun u => !Tryz.prog.wantsStandIn u)=true:=by kernel_rfl
theorem floatNear_card:Rows.FloatNearCardSaid :=
 Claim7.holds_tied_plain_at .later [] [.data, .data, .data, .sentinel, .sentinel] true Rows.floatNearCard.stood.harness true
  ZiY (fun _ h=>by cases h) Zku (fun _ h=>by cases h) floatNear_row_tie rfl ⟨rfl,rfl⟩ ZhO rfl
  (fun f fn hf hfn=>by
   obtain rfl:f=4:=Option.some.inj ((Zcq).symm.trans hf) |>.symm
   obtain rfl:fn=Tryz.f4:=(Option.some.inj (Tryz.func4.symm.trans hfn)).symm
   exact ⟨Zg3,fun j t ht=>by
    rw [Tryz.params4] at ht
    have hm:t ∈ [9,3]:=by simpa using Array.mem_of_getElem? ht
    exact (show Tryz.prog.wantsStandIn t=false by simpa using List.all_eq_true.1 Zg4 t hm)⟩)
  ZhP
#print axioms floatNear_card
end Go.Proofs.YtklpdkpcocnglaaGreatDoor
