/-
 My texts FrwP put together.
-/
import Derived.Test.YtklpdkpcocnglaaGreatDoorU09
import Derived.Test.YtklpdkpcocnglaaGreatDoorU10
import Derived.Test.YtklpdkpcocnglaaGreatDoorU21
import Derived.Test.YtklpdkpcocnglaaGreatDoorTie
import Derived.Test.YtklpdkpcocnglaaGreatDoorCards
import Derived.SevenTiedAt
import Derived.ChangeOld
import Derived.Below
set_option maxRecDepth 100000
set_option maxHeartbeats 8000000
namespace Go.Proofs.YtklpdkpcocnglaaGreatDoor
open Go.ChangeShapes Go.WideShapes Go.ChangeAt Go.RowKit
open Go.ChangeMaps (open_string shut_string)
theorem Zud:laidOutB Tryz.prog=true:=by kernel_rfl
theorem Zls (os:Os) (started:os.Started) (H:Type) (enc:TypeId × Value→H) :
 ReturnsInHanded {} Tryz.checked os 12 .any (fun w args=>(Rows.floatRawSpec.pre enc Tryz.prog Tryz.f12 [] false w args∧laidMetH Tryz.prog ZgP w)∧sizedMet enc Tryz.prog Tryz.f12 (OpenSpec.ofChange Rows.floatRawSpec) false w args)
  (Rows.floatRawSpec.post enc Tryz.prog Tryz.f12 false true false false):=by
 refine returnsInHanded_of_change_and (C:=Tryz.checked) (X:=fun w _=>laidMetH Tryz.prog ZgP w) (fun _ _ _ hh h=>h.of_heap hh) own started (by kernel_rfl) Tryz.func12
  (ChangeSpec.witness_shaped (enc:=enc) (C:=Tryz.checked) (os:=os) (X:=fun w _=>laidMetH Tryz.prog ZgP w) false (World.doorLaid Tryz.prog 400 os) #[.agg #[.string ⟨#[]⟩, .int .i64 0], .agg #[.string ⟨#[]⟩, .int .i64 0], .int .i64 0] 8 rfl (World.shaped_of_RefB (by kernel_rfl) (by kernel_rfl)) (by kernel_rfl) (by kernel_rfl) (by kernel_rfl) (Zl5 os _)) ?_
 intro W base args ds gs before hval0 hW _ _ hL _
 have hval:∀ (j:Nat) t v,Tryz.f12.params[j]? = some t→args[j]? = some v→Value.okWide Tryz.prog W .any base t v:=hval0
 have hW':=hW
 obtain ⟨p,q,hA0,hV,rfl,hfz,hnd⟩:=hW
 have hA:DataW.TrodAll enc Tryz.prog W 0 (fun _=>true) true Tryz.f12.params.toList args.toList ds p:=hA0
 rw [Tryz.params12] at hA hval
 obtain ⟨v0,vs0,d0,ds0,p0,q0,hargs,rfl,rfl,h0,r0⟩:=trodAll_cons hA
 obtain ⟨v1,vs1,d1,ds1,p1,q1,rfl,rfl,rfl,h1,r1⟩:=trodAll_cons r0
 obtain ⟨v2,vs2,d2,ds2,p2,q2,rfl,rfl,rfl,h2,r2⟩:=trodAll_cons r1
 obtain ⟨rfl,rfl,rfl⟩:=trodAll_nil r2
 obtain rfl:args=#[v0,v1,v2]:=by cases args; simp_all
 obtain ⟨rfl,rfl⟩:=trodVars_none hV
 obtain ⟨a0,b0,rfl,rfl,rfl,w0⟩:=ZkF (hval 0 24 v0 rfl rfl) h0
 obtain ⟨a1,b1,rfl,rfl,rfl,w1⟩:=ZkF (hval 1 24 v1 rfl rfl) h1
 obtain ⟨a2,rfl,rfl,rfl,w2⟩:=open_int Tryz.underlying3 (hval 2 3 v2 rfl rfl) h2
 clear hA0 hval0
 simp only [List.append_nil] at hW'
 refine (Zjf a0 a1 b0 b1 a2 W (Zij hL)).mono fun e W' ⟨he,Q⟩=>?_
 subst he
 have bel:=Fr.toBelow Q
 exact ⟨_,rfl,_,_,_,[],_,[],hW',trodAll_mk1 (shut_bool Tryz.underlying4 _),(trodAll_cons_mk (ZkG w0) (trodAll_cons_mk (ZkG w1) (trodAll_cons_mk (shut_int Tryz.underlying3 w2) trodAll_mk0))),(by first | rfl | simp),bel.frame _,fun h=>by cases h⟩
theorem ZhE : Tryz.prog.funcNamed "sosopt/sosoptlaw23.FloatRaw" = some 12 := by kernel_rfl
theorem Zpo:(Rows.floatRawRow.inPlace == Tryz.pinned.checked.prog.inPlace 12)=true:=by kernel_rfl
theorem Zpp:(Rows.floatRawRow.unfollowed == Tryz.pinned.checked.prog.unfollowed 12)=true:=by kernel_rfl
theorem Zpq:(Rows.floatRawRow.recurses == Tryz.pinned.checked.prog.recurses 12)=true:=by kernel_rfl
theorem Zpr:(Rows.floatRawRow.named == Tryz.pinned.checked.prog.varsNamed 12)=true:=by kernel_rfl
theorem Zlt:joinedFacts Tryz.pinned.checked.prog 12 Tryz.f12 Rows.floatRawSpec Rows.floatRawRow=true:=by
 unfold joinedFacts
 rw [Zpo,Zpp,Zpq,Zpr]
 kernel_rfl
theorem Zm9:Tryz.f12.isInstance Tryz.pinned.checked.prog Rows.floatRawRow.origin Rows.floatRawRow.targs:=of_decide_eq_true (by kernel_rfl)
theorem Zna:Tryz.f12.isWrapper Tryz.pinned.checked.prog Rows.floatRawRow.wrapper Rows.floatRawRow.mainSum:=by unfold Func.isWrapper; first | (rw [if_pos (by decide +kernel)]; kernel_rfl) | (rw [if_neg (by decide +kernel)]; exact ⟨rfl,rfl⟩)
theorem ZoH:Rows.FloatRawSaid :=
 OpenClaim.holds_of_wide 12 Tryz.f12 rfl rfl rfl rfl rfl rfl rfl ⟨rfl,rfl,rfl,rfl,rfl⟩ rfl rfl rfl rfl rfl ZhE Tryz.func12 Zlt Zm9 Zna
  (fun os started H enc _=>Zls os started H enc)
theorem Zps:Rows.floatRawRow.wfByText (OpenSpec.ofChange Rows.floatRawSpec)=true:=by kernel_rfl
theorem Znb:Tryz.pinned.checked.prog.mainIs=some (Rows.floatRawCard.stood.harness.1,Rows.floatRawCard.stood.harness.2.toList):=by kernel_rfl
theorem Zl1:true=Tryz.pinned.checked.prog.looks []:=by kernel_rfl
theorem Znc:false=Rows.floatRawRow.goesBy Tryz.pinned.checked.prog:=by kernel_rfl
theorem Zl2:([24,24,3].all fun u => !Tryz.prog.wantsStandIn u)=true:=by kernel_rfl
theorem floatRaw_card:Rows.FloatRawCardSaid :=
 Claim7.holds_tied_plain_at .later [] [.data, .data, .data, .sentinel, .sentinel] true Rows.floatRawCard.stood.harness true
  ZoH (fun _ h=>by cases h) Zps (fun _ h=>by cases h) floatRaw_row_tie rfl ⟨rfl,rfl⟩ Znb rfl
  (fun f fn hf hfn=>by
   obtain rfl:f=12:=Option.some.inj ((ZhE).symm.trans hf) |>.symm
   obtain rfl:fn=Tryz.f12:=(Option.some.inj (Tryz.func12.symm.trans hfn)).symm
   exact ⟨Zl1,fun j t ht=>by
    rw [Tryz.params12] at ht
    have hm:t ∈ [24,24,3]:=by simpa using Array.mem_of_getElem? ht
    exact (show Tryz.prog.wantsStandIn t=false by simpa using List.all_eq_true.1 Zl2 t hm)⟩)
  Znc
#print axioms floatRaw_card
end Go.Proofs.YtklpdkpcocnglaaGreatDoor
