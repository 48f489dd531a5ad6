/-
  FormatPolys: for every polynomial with few terms, Poly gives the specified text or error and ParsePoly reads it; the law returns true and its argument reads as before.
  Conditions: the listed tables of the library hold what the program's text lays there (the card ties them).
-/
import Derived.Test.YtcpjeaaapocoeaaGreatDoorP10
import Derived.Test.YtcpjeaaapocoeaaGreatDoorP23
import Derived.Test.YtcpjeaaapocoeaaGreatDoorP25
import Derived.Test.YtcpjeaaapocoeaaGreatDoorTie
import Derived.Test.YtcpjeaaapocoeaaGreatDoorCards
import Derived.SevenTiedAt
import Derived.ChangeOld
import Derived.Below
set_option maxRecDepth 100000
namespace Go.Proofs.YtcpjeaaapocoeaaGreatDoor
open Go.ChangeShapes Go.WideShapes Go.ChangeAt Go.RowKit
open Go.ChangeMaps (open_string shut_string)
theorem Zga:laidOutB Tryz.prog=true:=by kernel_rfl
theorem ZgY (os:Os) (started:os.Started) (H:Type) (enc:TypeId × Value→H) :
 ReturnsInHanded {} Tryz.checked os 6 .any (fun w args=>(Rows.formatPolysSpec.pre enc Tryz.prog Tryz.f6 [] false w args∧laidMetH Tryz.prog ZfA w)∧sizedMet enc Tryz.prog Tryz.f6 (OpenSpec.ofChange Rows.formatPolysSpec) false w args)
  (Rows.formatPolysSpec.post enc Tryz.prog Tryz.f6 false true false false):=by
 refine returnsInHanded_of_change_and (C:=Tryz.checked) (X:=fun w _=>laidMetH Tryz.prog ZfA w) (fun _ _ _ hh h=>h.of_heap hh) own started (by kernel_rfl) Tryz.func6
  (ChangeSpec.witness_shaped (enc:=enc) (C:=Tryz.checked) (os:=os) (X:=fun w _=>laidMetH Tryz.prog ZfA w) false (World.laidAll Tryz.prog os ZfA) #[.agg #[.int .i64 0, .slice none 0 0]] 8 (World.laidAll_os _ _ _) (World.shaped_of_ZipB (by kernel_rfl) (by kernel_rfl)) (by kernel_rfl) (by kernel_rfl) (by kernel_rfl) (ZnW os _)) ?_
 intro W base args ds gs before hval0 hW _ _ hL _
 have hval:∀ (j:Nat) t v,Tryz.f6.params[j]? = some t→args[j]? = some v→Value.okWide Tryz.prog W .any base t v:=hval0
 have hW':=hW
 obtain ⟨p,q,hA0,hV,rfl,hfz,hnd⟩:=hW
 have hA:DataW.TrodAll enc Tryz.prog W 0 (fun _=>true) true Tryz.f6.params.toList args.toList ds p:=hA0
 rw [Tryz.params6] at hA hval
 obtain ⟨v0,vs0,d0,ds0,p0,q0,hargs,rfl,rfl,h0,r0⟩:=trodAll_cons hA
 obtain ⟨rfl,rfl,rfl⟩:=trodAll_nil r0
 obtain rfl:args=#[v0]:=by cases args; simp_all
 obtain ⟨rfl,rfl⟩:=trodVars_none hV
 have k0:=h0
 have lt0:∀ x ∈ p0,x.block < W.heap.size:=by obtain ⟨m,hm⟩:=k0; exact DataW.trod_lt m _ _ _ hm
 obtain ⟨a0,A0,c0,ts0,rfl,w0⟩:=Zpc (hval 0 43 v0 rfl rfl) h0
 clear hA0 hval0
 simp only [List.append_nil] at hW'
 refine (Zi3 A0 c0 ts0 a0 W (Zkg hL) w0).mono fun e W' ⟨he,Q⟩=>?_
 subst he
 have bel:=Fr.toBelow Q
 exact ⟨_,rfl,_,_,_,[],_,[],hW',trodAll_mk1 (shut_bool Tryz.underlying4 _),(trodAll_cons_mk (Below.trod Zga (by kernel_rfl) (of_decide_eq_true (by kernel_rfl)) k0 bel lt0) trodAll_mk0),(by first | rfl | simp),bel.frame _,fun h=>by cases h⟩
theorem Zei : Tryz.prog.funcNamed "sosopt/sosoptlaw42.FormatPolys" = some 6 := by kernel_rfl
theorem Zjz:(Rows.formatPolysRow.inPlace == Tryz.pinned.checked.prog.inPlace 6)=true:=by kernel_rfl
theorem ZjA:(Rows.formatPolysRow.unfollowed == Tryz.pinned.checked.prog.unfollowed 6)=true:=by kernel_rfl
theorem ZjB:(Rows.formatPolysRow.recurses == Tryz.pinned.checked.prog.recurses 6)=true:=by kernel_rfl
theorem ZjC:(Rows.formatPolysRow.named == Tryz.pinned.checked.prog.varsNamed 6)=true:=by kernel_rfl
theorem ZgZ:joinedFacts Tryz.pinned.checked.prog 6 Tryz.f6 Rows.formatPolysSpec Rows.formatPolysRow=true:=by
 unfold joinedFacts
 rw [Zjz,ZjA,ZjB,ZjC]
 kernel_rfl
theorem Zh8:Tryz.f6.isInstance Tryz.pinned.checked.prog Rows.formatPolysRow.origin Rows.formatPolysRow.targs:=of_decide_eq_true (by kernel_rfl)
theorem Zh9:Tryz.f6.isWrapper Tryz.pinned.checked.prog Rows.formatPolysRow.wrapper Rows.formatPolysRow.mainSum:=by unfold Func.isWrapper; first | (rw [if_pos (by decide +kernel)]; kernel_rfl) | (rw [if_neg (by decide +kernel)]; exact ⟨rfl,rfl⟩)
theorem Zi4:Rows.FormatPolysSaid :=
 OpenClaim.holds_of_wide 6 Tryz.f6 rfl rfl rfl rfl rfl rfl rfl ⟨rfl,rfl,rfl,rfl,rfl⟩ rfl rfl rfl rfl rfl Zei Tryz.func6 ZgZ Zh8 Zh9
  (fun os started H enc _=>ZgY os started H enc)
theorem ZjD:Rows.formatPolysRow.wfByText (OpenSpec.ofChange Rows.formatPolysSpec)=true:=by kernel_rfl
theorem Zia:Tryz.pinned.checked.prog.mainIs=some (Rows.formatPolysCard.stood.harness.1,Rows.formatPolysCard.stood.harness.2.toList):=by kernel_rfl
theorem Zhp:true=Tryz.pinned.checked.prog.looks []:=by kernel_rfl
theorem Zib:false=Rows.formatPolysRow.goesBy Tryz.pinned.checked.prog:=by kernel_rfl
theorem Zhq:([43].all fun u => !Tryz.prog.wantsStandIn u)=true:=by kernel_rfl
theorem formatPolys_card:Rows.FormatPolysCardSaid :=
 Claim7.holds_tied_plain_at .later [] [.data, .data, .data, .data, .sentinel, .sentinel, .pinned] true Rows.formatPolysCard.stood.harness true
  Zi4 (fun _ h=>by cases h) ZjD (fun _ h=>by cases h) formatPolys_row_tie rfl ⟨rfl,rfl⟩ Zia rfl
  (fun f fn hf hfn=>by
   obtain rfl:f=6:=Option.some.inj ((Zei).symm.trans hf) |>.symm
   obtain rfl:fn=Tryz.f6:=(Option.some.inj (Tryz.func6.symm.trans hfn)).symm
   exact ⟨Zhp,fun j t ht=>by
    rw [Tryz.params6] at ht
    have hm:t ∈ [43]:=by simpa using Array.mem_of_getElem? ht
    exact (show Tryz.prog.wantsStandIn t=false by simpa using List.all_eq_true.1 Zhq t hm)⟩)
  Zib
#print axioms formatPolys_card
end Go.Proofs.YtcpjeaaapocoeaaGreatDoor
