/-
 My texts FrnP put together.
-/
import Derived.Test.YtklpdkpcocnglaaGreatDoorV09
import Derived.Test.YtklpdkpcocnglaaGreatDoorV23
import Derived.Test.YtklpdkpcocnglaaGreatDoorTie
import Derived.Test.YtklpdkpcocnglaaGreatDoorCards
import Derived.SevenTiedAt
import Derived.ChangeOld
import Derived.Below
set_option maxRecDepth 100000
namespace Go.Proofs.YtklpdkpcocnglaaGreatDoor
open Go.ChangeShapes Go.WideShapes Go.ChangeAt Go.RowKit
open Go.ChangeMaps (open_string shut_string)
theorem ZqD:laidOutB Tryz.prog=true:=by kernel_rfl
theorem ZiA (os:Os) (started:os.Started) (H:Type) (enc:TypeId × Value→H) :
 ReturnsInHanded {} Tryz.checked os 3 .any (fun w args=>(Rows.floatRoundsSpec.pre enc Tryz.prog Tryz.f3 [] false w args∧laidMetH Tryz.prog Zge w)∧sizedMet enc Tryz.prog Tryz.f3 (OpenSpec.ofChange Rows.floatRoundsSpec) false w args)
  (Rows.floatRoundsSpec.post enc Tryz.prog Tryz.f3 false true false false):=by
 refine returnsInHanded_of_change_and (C:=Tryz.checked) (X:=fun w _=>laidMetH Tryz.prog Zge w) (fun _ _ _ hh h=>h.of_heap hh) own started (by kernel_rfl) Tryz.func3
  (ChangeSpec.witness_shaped (enc:=enc) (C:=Tryz.checked) (os:=os) (X:=fun w _=>laidMetH Tryz.prog Zge w) false (World.doorLaid Tryz.prog 400 os) #[.string ⟨#[]⟩, .int .i64 0] 8 rfl (World.shaped_of_RefB (by kernel_rfl) (by kernel_rfl)) (by kernel_rfl) (by kernel_rfl) (by kernel_rfl) (Zls os _)) ?_
 intro W base args ds gs before hval0 hW _ _ hL _
 have hval:∀ (j:Nat) t v,Tryz.f3.params[j]? = some t→args[j]? = some v→Value.okWide Tryz.prog W .any base t v:=hval0
 have hW':=hW
 obtain ⟨p,q,hA0,hV,rfl,hfz,hnd⟩:=hW
 have hA:DataW.TrodAll enc Tryz.prog W 0 (fun _=>true) true Tryz.f3.params.toList args.toList ds p:=hA0
 rw [Tryz.params3] at hA hval
 obtain ⟨v0,vs0,d0,ds0,p0,q0,hargs,rfl,rfl,h0,r0⟩:=trodAll_cons hA
 obtain ⟨v1,vs1,d1,ds1,p1,q1,rfl,rfl,rfl,h1,r1⟩:=trodAll_cons r0
 obtain ⟨rfl,rfl,rfl⟩:=trodAll_nil r1
 obtain rfl:args=#[v0,v1]:=by cases args; simp_all
 obtain ⟨rfl,rfl⟩:=trodVars_none hV
 obtain ⟨a0,rfl,rfl,rfl,w0⟩:=open_string Tryz.underlying9 (hval 0 9 v0 rfl rfl) h0
 obtain ⟨a1,rfl,rfl,rfl,w1⟩:=open_int Tryz.underlying3 (hval 1 3 v1 rfl rfl) h1
 clear hA0 hval0
 simp only [List.append_nil] at hW'
 refine (ZkP a0 a1 W (Zhy hL)).mono fun e W' ⟨he,Q⟩=>?_
 subst he
 have bel:=Fr.toBelow Q
 exact ⟨_,rfl,_,_,_,[],_,[],hW',trodAll_mk1 (shut_bool Tryz.underlying4 _),(trodAll_cons_mk (shut_string Tryz.underlying9 w0) (trodAll_cons_mk (shut_int Tryz.underlying3 w1) trodAll_mk0)),(by first | rfl | simp),bel.frame _,fun h=>by cases h⟩
theorem Zfs : Tryz.prog.funcNamed "sosopt/sosoptlaw23.FloatRounds" = some 3 := by kernel_rfl
theorem Zll:(Rows.floatRoundsRow.inPlace == Tryz.pinned.checked.prog.inPlace 3)=true:=by kernel_rfl
theorem Zlm:(Rows.floatRoundsRow.unfollowed == Tryz.pinned.checked.prog.unfollowed 3)=true:=by kernel_rfl
theorem Zln:(Rows.floatRoundsRow.recurses == Tryz.pinned.checked.prog.recurses 3)=true:=by kernel_rfl
theorem Zlo:(Rows.floatRoundsRow.named == Tryz.pinned.checked.prog.varsNamed 3)=true:=by kernel_rfl
theorem ZiB:joinedFacts Tryz.pinned.checked.prog 3 Tryz.f3 Rows.floatRoundsSpec Rows.floatRoundsRow=true:=by
 unfold joinedFacts
 rw [Zll,Zlm,Zln,Zlo]
 kernel_rfl
theorem ZjT:Tryz.f3.isInstance Tryz.pinned.checked.prog Rows.floatRoundsRow.origin Rows.floatRoundsRow.targs:=of_decide_eq_true (by kernel_rfl)
theorem ZjU:Tryz.f3.isWrapper Tryz.pinned.checked.prog Rows.floatRoundsRow.wrapper Rows.floatRoundsRow.mainSum:=by unfold Func.isWrapper; first | (rw [if_pos (by decide +kernel)]; kernel_rfl) | (rw [if_neg (by decide +kernel)]; exact ⟨rfl,rfl⟩)
theorem ZkQ:Rows.FloatRoundsSaid :=
 OpenClaim.holds_of_wide 3 Tryz.f3 rfl rfl rfl rfl rfl rfl rfl ⟨rfl,rfl,rfl,rfl,rfl⟩ rfl rfl rfl rfl rfl Zfs Tryz.func3 ZiB ZjT ZjU
  (fun os started H enc _=>ZiA os started H enc)
theorem Zlp:Rows.floatRoundsRow.wfByText (OpenSpec.ofChange Rows.floatRoundsSpec)=true:=by kernel_rfl
theorem ZjV:Tryz.pinned.checked.prog.mainIs=some (Rows.floatRoundsCard.stood.harness.1,Rows.floatRoundsCard.stood.harness.2.toList):=by kernel_rfl
theorem Zi7:true=Tryz.pinned.checked.prog.looks []:=by kernel_rfl
theorem ZjW:false=Rows.floatRoundsRow.goesBy Tryz.pinned.checked.prog:=by kernel_rfl
theorem Zi8:([9,3].all fun u => !Tryz.prog.wantsStandIn u)=true:=by kernel_rfl
theorem floatRounds_card:Rows.FloatRoundsCardSaid :=
 Claim7.holds_tied_plain_at .later [] [.data, .data, .data, .sentinel, .sentinel] true Rows.floatRoundsCard.stood.harness true
  ZkQ (fun _ h=>by cases h) Zlp (fun _ h=>by cases h) floatRounds_row_tie rfl ⟨rfl,rfl⟩ ZjV rfl
  (fun f fn hf hfn=>by
   obtain rfl:f=3:=Option.some.inj ((Zfs).symm.trans hf) |>.symm
   obtain rfl:fn=Tryz.f3:=(Option.some.inj (Tryz.func3.symm.trans hfn)).symm
   exact ⟨Zi7,fun j t ht=>by
    rw [Tryz.params3] at ht
    have hm:t ∈ [9,3]:=by simpa using Array.mem_of_getElem? ht
    exact (show Tryz.prog.wantsStandIn t=false by simpa using List.all_eq_true.1 Zi8 t hm)⟩)
  ZjW
#print axioms floatRounds_card
end Go.Proofs.YtklpdkpcocnglaaGreatDoor
