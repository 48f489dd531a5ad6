/-
  RationalLong: for every number n and every byte, Parse reads texts of n equal digits (n up to the greatest length of a text and a little more) as it should; the law returns true and its arguments read as before.
  Conditions: the listed tables of the library hold what the program's text lays there (the card ties them).
-/
import Derived.Test.YtcpjeaaapocoeaaGreatDoorR09
import Derived.Test.YtcpjeaaapocoeaaGreatDoorR17
import Derived.Test.YtcpjeaaapocoeaaGreatDoorTie
import Derived.Test.YtcpjeaaapocoeaaGreatDoorCards
import Derived.SevenTiedAt
import Derived.ChangeOld
import Derived.Below
set_option maxRecDepth 100000
namespace Go.Proofs.YtcpjeaaapocoeaaGreatDoor
open Go.ChangeShapes Go.WideShapes Go.ChangeAt Go.RowKit
open Go.ChangeMaps (open_string shut_string)
theorem ZmL:laidOutB Tryz.prog=true:=by kernel_rfl
theorem Zgu (os:Os) (started:os.Started) (H:Type) (enc:TypeId × Value→H) :
 ReturnsInHanded {} Tryz.checked os 4 .any (fun w args=>(Rows.rationalLongSpec.pre enc Tryz.prog Tryz.f4 [] false w args∧laidMetH Tryz.prog Ziv w)∧sizedMet enc Tryz.prog Tryz.f4 (OpenSpec.ofChange Rows.rationalLongSpec) false w args)
  (Rows.rationalLongSpec.post enc Tryz.prog Tryz.f4 false true false false):=by
 refine returnsInHanded_of_change_and (C:=Tryz.checked) (X:=fun w _=>laidMetH Tryz.prog Ziv w) (fun _ _ _ hh h=>h.of_heap hh) own started (by kernel_rfl) Tryz.func4
  (ChangeSpec.witness_shaped (enc:=enc) (C:=Tryz.checked) (os:=os) (X:=fun w _=>laidMetH Tryz.prog Ziv w) false (World.doorLaid Tryz.prog 400 os) #[.int .i64 0, .int .u8 0] 8 rfl (World.shaped_of_RefB (by kernel_rfl) (by kernel_rfl)) (by kernel_rfl) (by kernel_rfl) (by kernel_rfl) (ZnI os _)) ?_
 intro W base args ds gs before hval0 hW _ _ hL _
 have hval:∀ (j:Nat) t v,Tryz.f4.params[j]? = some t→args[j]? = some v→Value.okWide Tryz.prog W .any base t v:=hval0
 have hW':=hW
 obtain ⟨p,q,hA0,hV,rfl,hfz,hnd⟩:=hW
 have hA:DataW.TrodAll enc Tryz.prog W 0 (fun _=>true) true Tryz.f4.params.toList args.toList ds p:=hA0
 rw [Tryz.params4] at hA hval
 obtain ⟨v0,vs0,d0,ds0,p0,q0,hargs,rfl,rfl,h0,r0⟩:=trodAll_cons hA
 obtain ⟨v1,vs1,d1,ds1,p1,q1,rfl,rfl,rfl,h1,r1⟩:=trodAll_cons r0
 obtain ⟨rfl,rfl,rfl⟩:=trodAll_nil r1
 obtain rfl:args=#[v0,v1]:=by cases args; simp_all
 obtain ⟨rfl,rfl⟩:=trodVars_none hV
 obtain ⟨a0,rfl,rfl,rfl,w0⟩:=open_int Tryz.underlying3 (hval 0 3 v0 rfl rfl) h0
 obtain ⟨a1,rfl,rfl,rfl,w1⟩:=open_int Tryz.underlying5 (hval 1 5 v1 rfl rfl) h1
 clear hA0 hval0
 simp only [List.append_nil] at hW'
 refine (Zi5 a0 a1 w1 W (Zky hL)).mono fun e W' ⟨he,Q⟩=>?_
 subst he
 have bel:=Fr.toBelow Q
 exact ⟨_,rfl,_,_,_,[],_,[],hW',trodAll_mk1 (shut_bool Tryz.underlying4 _),(trodAll_cons_mk (shut_int Tryz.underlying3 w0) (trodAll_cons_mk (shut_int Tryz.underlying5 w1) trodAll_mk0)),(by first | rfl | simp),bel.frame _,fun h=>by cases h⟩
theorem Zey : Tryz.prog.funcNamed "sosopt/sosoptlaw01.RationalLong" = some 4 := by kernel_rfl
theorem Zi6:(Rows.rationalLongRow.inPlace == Tryz.pinned.checked.prog.inPlace 4)=true:=by kernel_rfl
theorem Zi7:(Rows.rationalLongRow.unfollowed == Tryz.pinned.checked.prog.unfollowed 4)=true:=by kernel_rfl
theorem Zi8:(Rows.rationalLongRow.recurses == Tryz.pinned.checked.prog.recurses 4)=true:=by kernel_rfl
theorem Zi9:(Rows.rationalLongRow.named == Tryz.pinned.checked.prog.varsNamed 4)=true:=by kernel_rfl
theorem Zgv:joinedFacts Tryz.pinned.checked.prog 4 Tryz.f4 Rows.rationalLongSpec Rows.rationalLongRow=true:=by
 unfold joinedFacts
 rw [Zi6,Zi7,Zi8,Zi9]
 kernel_rfl
theorem ZhE:Tryz.f4.isInstance Tryz.pinned.checked.prog Rows.rationalLongRow.origin Rows.rationalLongRow.targs:=of_decide_eq_true (by kernel_rfl)
theorem ZhF:Tryz.f4.isWrapper Tryz.pinned.checked.prog Rows.rationalLongRow.wrapper Rows.rationalLongRow.mainSum:=by unfold Func.isWrapper; first | (rw [if_pos (by decide +kernel)]; kernel_rfl) | (rw [if_neg (by decide +kernel)]; exact ⟨rfl,rfl⟩)
theorem Zin:Rows.RationalLongSaid :=
 OpenClaim.holds_of_wide 4 Tryz.f4 rfl rfl rfl rfl rfl rfl rfl ⟨rfl,rfl,rfl,rfl,rfl⟩ rfl rfl rfl rfl rfl Zey Tryz.func4 Zgv ZhE ZhF
  (fun os started H enc _=>Zgu os started H enc)
theorem Zja:Rows.rationalLongRow.wfByText (OpenSpec.ofChange Rows.rationalLongSpec)=true:=by kernel_rfl
theorem ZhG:Tryz.pinned.checked.prog.mainIs=some (Rows.rationalLongCard.stood.harness.1,Rows.rationalLongCard.stood.harness.2.toList):=by kernel_rfl
theorem Zhc:true=Tryz.pinned.checked.prog.looks []:=by kernel_rfl
theorem ZhH:false=Rows.rationalLongRow.goesBy Tryz.pinned.checked.prog:=by kernel_rfl
theorem Zhd:([3,5].all fun u => !Tryz.prog.wantsStandIn u)=true:=by kernel_rfl
theorem rationalLong_card:Rows.RationalLongCardSaid :=
 Claim7.holds_tied_plain_at .later [] [.data, .data, .data] true Rows.rationalLongCard.stood.harness true
  Zin (fun _ h=>by cases h) Zja (fun _ h=>by cases h) rationalLong_row_tie rfl ⟨rfl,rfl⟩ ZhG rfl
  (fun f fn hf hfn=>by
   obtain rfl:f=4:=Option.some.inj ((Zey).symm.trans hf) |>.symm
   obtain rfl:fn=Tryz.f4:=(Option.some.inj (Tryz.func4.symm.trans hfn)).symm
   exact ⟨Zhc,fun j t ht=>by
    rw [Tryz.params4] at ht
    have hm:t ∈ [3,5]:=by simpa using Array.mem_of_getElem? ht
    exact (show Tryz.prog.wantsStandIn t=false by simpa using List.all_eq_true.1 Zhd t hm)⟩)
  ZhH
#print axioms rationalLong_card
end Go.Proofs.YtcpjeaaapocoeaaGreatDoor
