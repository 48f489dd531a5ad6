/-
  FormatZero: for every number of variables, Poly gives the text of the zero polynomial, or ErrInvalid; ParsePoly reads it; the law returns true and its argument reads as before.
  Conditions: the listed tables of the library hold what the program's text lays there (the card ties them).
-/
import Derived.Test.YtcpjeaaapocoeaaGreatDoorG10
import Derived.Test.YtcpjeaaapocoeaaGreatDoorG22
import Derived.Test.YtcpjeaaapocoeaaGreatDoorTie
import Derived.Test.YtcpjeaaapocoeaaGreatDoorCards
import Derived.SevenTiedAt
import Derived.ChangeOld
import Derived.Below
set_option maxRecDepth 100000
namespace Go.Proofs.YtcpjeaaapocoeaaGreatDoor
open Go.ChangeShapes Go.WideShapes Go.ChangeAt Go.RowKit
open Go.ChangeMaps (open_string shut_string)
theorem ZkN:laidOutB Tryz.prog=true:=by kernel_rfl
theorem Zfq (os:Os) (started:os.Started) (H:Type) (enc:TypeId × Value→H) :
 ReturnsInHanded {} Tryz.checked os 5 .any (fun w args=>(Rows.formatZeroSpec.pre enc Tryz.prog Tryz.f5 [] false w args∧laidMetH Tryz.prog Zea w)∧sizedMet enc Tryz.prog Tryz.f5 (OpenSpec.ofChange Rows.formatZeroSpec) false w args)
  (Rows.formatZeroSpec.post enc Tryz.prog Tryz.f5 false true false false):=by
 refine returnsInHanded_of_change_and (C:=Tryz.checked) (X:=fun w _=>laidMetH Tryz.prog Zea w) (fun _ _ _ hh h=>h.of_heap hh) own started (by kernel_rfl) Tryz.func5
  (ChangeSpec.witness_shaped (enc:=enc) (C:=Tryz.checked) (os:=os) (X:=fun w _=>laidMetH Tryz.prog Zea w) false (World.laidAll Tryz.prog os Zea) #[.int .i64 0] 8 (World.laidAll_os _ _ _) (World.shaped_of_ZipB (by kernel_rfl) (by kernel_rfl)) (by kernel_rfl) (by kernel_rfl) (by kernel_rfl) (Zj0 os _)) ?_
 intro W base args ds gs before hval0 hW _ _ hL _
 have hval:∀ (j:Nat) t v,Tryz.f5.params[j]? = some t→args[j]? = some v→Value.okWide Tryz.prog W .any base t v:=hval0
 have hW':=hW
 obtain ⟨p,q,hA0,hV,rfl,hfz,hnd⟩:=hW
 have hA:DataW.TrodAll enc Tryz.prog W 0 (fun _=>true) true Tryz.f5.params.toList args.toList ds p:=hA0
 rw [Tryz.params5] at hA hval
 obtain ⟨v0,vs0,d0,ds0,p0,q0,hargs,rfl,rfl,h0,r0⟩:=trodAll_cons hA
 obtain ⟨rfl,rfl,rfl⟩:=trodAll_nil r0
 obtain rfl:args=#[v0]:=by cases args; simp_all
 obtain ⟨rfl,rfl⟩:=trodVars_none hV
 obtain ⟨a0,rfl,rfl,rfl,w0⟩:=open_int Tryz.underlying3 (hval 0 3 v0 rfl rfl) h0
 clear hA0 hval0
 simp only [List.append_nil] at hW'
 refine (Zg8 a0 W (Zhw hL)).mono fun e W' ⟨he,Q⟩=>?_
 subst he
 have bel:=Fr.toBelow Q
 exact ⟨_,rfl,_,_,_,[],_,[],hW',trodAll_mk1 (shut_bool Tryz.underlying4 _),(trodAll_cons_mk (shut_int Tryz.underlying3 w0) trodAll_mk0),(by first | rfl | simp),bel.frame _,fun h=>by cases h⟩
theorem Zdu : Tryz.prog.funcNamed "sosopt/sosoptlaw42.FormatZero" = some 5 := by kernel_rfl
theorem ZhI:(Rows.formatZeroRow.inPlace == Tryz.pinned.checked.prog.inPlace 5)=true:=by kernel_rfl
theorem ZhJ:(Rows.formatZeroRow.unfollowed == Tryz.pinned.checked.prog.unfollowed 5)=true:=by kernel_rfl
theorem ZhK:(Rows.formatZeroRow.recurses == Tryz.pinned.checked.prog.recurses 5)=true:=by kernel_rfl
theorem ZhL:(Rows.formatZeroRow.named == Tryz.pinned.checked.prog.varsNamed 5)=true:=by kernel_rfl
theorem Zfr:joinedFacts Tryz.pinned.checked.prog 5 Tryz.f5 Rows.formatZeroSpec Rows.formatZeroRow=true:=by
 unfold joinedFacts
 rw [ZhI,ZhJ,ZhK,ZhL]
 kernel_rfl
theorem ZgJ:Tryz.f5.isInstance Tryz.pinned.checked.prog Rows.formatZeroRow.origin Rows.formatZeroRow.targs:=of_decide_eq_true (by kernel_rfl)
theorem ZgK:Tryz.f5.isWrapper Tryz.pinned.checked.prog Rows.formatZeroRow.wrapper Rows.formatZeroRow.mainSum:=by unfold Func.isWrapper; first | (rw [if_pos (by decide +kernel)]; kernel_rfl) | (rw [if_neg (by decide +kernel)]; exact ⟨rfl,rfl⟩)
theorem Zg9:Rows.FormatZeroSaid :=
 OpenClaim.holds_of_wide 5 Tryz.f5 rfl rfl rfl rfl rfl rfl rfl ⟨rfl,rfl,rfl,rfl,rfl⟩ rfl rfl rfl rfl rfl Zdu Tryz.func5 Zfr ZgJ ZgK
  (fun os started H enc _=>Zfq os started H enc)
theorem ZhM:Rows.formatZeroRow.wfByText (OpenSpec.ofChange Rows.formatZeroSpec)=true:=by kernel_rfl
theorem ZgL:Tryz.pinned.checked.prog.mainIs=some (Rows.formatZeroCard.stood.harness.1,Rows.formatZeroCard.stood.harness.2.toList):=by kernel_rfl
theorem ZfZ:true=Tryz.pinned.checked.prog.looks []:=by kernel_rfl
theorem ZgM:false=Rows.formatZeroRow.goesBy Tryz.pinned.checked.prog:=by kernel_rfl
theorem Zf0:([3].all fun u => !Tryz.prog.wantsStandIn u)=true:=by kernel_rfl
theorem formatZero_card:Rows.FormatZeroCardSaid :=
 Claim7.holds_tied_plain_at .later [] [.data, .data, .data, .data, .sentinel, .sentinel, .pinned] true Rows.formatZeroCard.stood.harness true
  Zg9 (fun _ h=>by cases h) ZhM (fun _ h=>by cases h) formatZero_row_tie rfl ⟨rfl,rfl⟩ ZgL rfl
  (fun f fn hf hfn=>by
   obtain rfl:f=5:=Option.some.inj ((Zdu).symm.trans hf) |>.symm
   obtain rfl:fn=Tryz.f5:=(Option.some.inj (Tryz.func5.symm.trans hfn)).symm
   exact ⟨ZfZ,fun j t ht=>by
    rw [Tryz.params5] at ht
    have hm:t ∈ [3]:=by simpa using Array.mem_of_getElem? ht
    exact (show Tryz.prog.wantsStandIn t=false by simpa using List.all_eq_true.1 Zf0 t hm)⟩)
  ZgM
#print axioms formatZero_card
end Go.Proofs.YtcpjeaaapocoeaaGreatDoor
