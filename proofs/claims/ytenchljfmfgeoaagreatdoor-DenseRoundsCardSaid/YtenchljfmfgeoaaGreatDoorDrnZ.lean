/-
  DenseRounds: Round rounds every element or returns the specified error, for matrices of at most 9 elements; the law returns true and its arguments read as before.
  Conditions: the listed tables of the library hold what the program's text lays there (the card ties them).
-/
import Derived.Test.YtenchljfmfgeoaaGreatDoorR09
import Derived.Test.YtenchljfmfgeoaaGreatDoorR23
import Derived.Test.YtenchljfmfgeoaaGreatDoorR24
import Derived.Test.YtenchljfmfgeoaaGreatDoorTie
import Derived.Test.YtenchljfmfgeoaaGreatDoorCards
import Derived.SevenTiedAt
import Derived.ChangeOld
import Derived.Below
set_option maxRecDepth 100000
set_option maxHeartbeats 8000000
namespace Go.Proofs.YtenchljfmfgeoaaGreatDoor
open Go.ChangeShapes Go.WideShapes Go.ChangeAt Go.RowKit
open Go.ChangeMaps (open_string shut_string)
theorem Zdb:laidOutB Tryz.prog=true:=by kernel_rfl
theorem ZdW (os:Os) (started:os.Started) (H:Type) (enc:TypeId × Value→H) :
 ReturnsInHanded {} Tryz.checked os 3 .any (fun w args=>(Rows.denseRoundsSpec.pre enc Tryz.prog Tryz.f3 [] false w args∧laidMetH Tryz.prog Zfi w)∧sizedMet enc Tryz.prog Tryz.f3 (OpenSpec.ofChange Rows.denseRoundsSpec) false w args)
  (Rows.denseRoundsSpec.post enc Tryz.prog Tryz.f3 false true false false):=by
 refine returnsInHanded_of_change_and (C:=Tryz.checked) (X:=fun w _=>laidMetH Tryz.prog Zfi w) (fun _ _ _ hh h=>h.of_heap hh) own started (by kernel_rfl) Tryz.func3
  (ChangeSpec.witness_shaped (enc:=enc) (C:=Tryz.checked) (os:=os) (X:=fun w _=>laidMetH Tryz.prog Zfi w) false (World.doorLaid Tryz.prog 400 os) #[.agg #[.int .i64 0, .int .i64 0, .slice none 0 0], .int .i64 0] 8 rfl (World.shaped_of_RefB (by kernel_rfl) (by kernel_rfl)) (by kernel_rfl) (by kernel_rfl) (by kernel_rfl) (ZmM os _)) ?_
 intro W base args ds gs before hval0 hW _ _ hL _
 have hval:∀ (j:Nat) t v,Tryz.f3.params[j]? = some t→args[j]? = some v→Value.okWide Tryz.prog W .any base t v:=hval0
 have hW':=hW
 obtain ⟨p,q,hA0,hV,rfl,hfz,hnd⟩:=hW
 have hA:DataW.TrodAll enc Tryz.prog W 0 (fun _=>true) true Tryz.f3.params.toList args.toList ds p:=hA0
 rw [Tryz.params3] at hA hval
 obtain ⟨v0,vs0,d0,ds0,p0,q0,hargs,rfl,rfl,h0,r0⟩:=trodAll_cons hA
 obtain ⟨v1,vs1,d1,ds1,p1,q1,rfl,rfl,rfl,h1,r1⟩:=trodAll_cons r0
 obtain ⟨rfl,rfl,rfl⟩:=trodAll_nil r1
 obtain rfl:args=#[v0,v1]:=by cases args; simp_all
 obtain ⟨rfl,rfl⟩:=trodVars_none hV
 have k0:=h0
 have lt0:∀ x ∈ p0,x.block < W.heap.size:=by obtain ⟨m,hm⟩:=k0; exact DataW.trod_lt m _ _ _ hm
 obtain ⟨x0,y0,A0,c0,ts0,rfl,w0⟩:=Zox (hval 0 24 v0 rfl rfl) h0
 obtain ⟨a1,rfl,rfl,rfl,w1⟩:=open_int Tryz.underlying3 (hval 1 3 v1 rfl rfl) h1
 clear hA0 hval0
 simp only [List.append_nil] at hW'
 refine (Zgc x0 y0 a1 A0 c0 ts0 W (ZhE hL) w0).mono fun e W' ⟨he,Q⟩=>?_
 subst he
 have bel:=Fr.toBelow Q
 exact ⟨_,rfl,_,_,_,[],_,[],hW',trodAll_mk1 (shut_bool Tryz.underlying4 _),(trodAll_cons_mk (Below.trod Zdb (by kernel_rfl) (of_decide_eq_true (by kernel_rfl)) k0 bel lt0) (trodAll_cons_mk (shut_int Tryz.underlying3 w1) trodAll_mk0)),(by first | rfl | simp),bel.frame _,fun h=>by cases h⟩
theorem Zaw : Tryz.prog.funcNamed "sosopt/sosoptlaw24.DenseRounds" = some 3 := by kernel_rfl
theorem ZgN:(Rows.denseRoundsRow.inPlace == Tryz.pinned.checked.prog.inPlace 3)=true:=by kernel_rfl
theorem ZgO:(Rows.denseRoundsRow.unfollowed == Tryz.pinned.checked.prog.unfollowed 3)=true:=by kernel_rfl
theorem ZgP:(Rows.denseRoundsRow.recurses == Tryz.pinned.checked.prog.recurses 3)=true:=by kernel_rfl
theorem ZgQ:(Rows.denseRoundsRow.named == Tryz.pinned.checked.prog.varsNamed 3)=true:=by kernel_rfl
theorem ZdX:joinedFacts Tryz.pinned.checked.prog 3 Tryz.f3 Rows.denseRoundsSpec Rows.denseRoundsRow=true:=by
 unfold joinedFacts
 rw [ZgN,ZgO,ZgP,ZgQ]
 kernel_rfl
theorem Ze7:Tryz.f3.isInstance Tryz.pinned.checked.prog Rows.denseRoundsRow.origin Rows.denseRoundsRow.targs:=of_decide_eq_true (by kernel_rfl)
theorem Ze8:Tryz.f3.isWrapper Tryz.pinned.checked.prog Rows.denseRoundsRow.wrapper Rows.denseRoundsRow.mainSum:=by unfold Func.isWrapper; first | (rw [if_pos (by decide +kernel)]; kernel_rfl) | (rw [if_neg (by decide +kernel)]; exact ⟨rfl,rfl⟩)
theorem Zgd:Rows.DenseRoundsSaid :=
 OpenClaim.holds_of_wide 3 Tryz.f3 rfl rfl rfl rfl rfl rfl rfl ⟨rfl,rfl,rfl,rfl,rfl⟩ rfl rfl rfl rfl rfl Zaw Tryz.func3 ZdX Ze7 Ze8
  (fun os started H enc _=>ZdW os started H enc)
theorem ZgR:Rows.denseRoundsRow.wfByText (OpenSpec.ofChange Rows.denseRoundsSpec)=true:=by kernel_rfl
theorem Ze9:Tryz.pinned.checked.prog.mainIs=some (Rows.denseRoundsCard.stood.harness.1,Rows.denseRoundsCard.stood.harness.2.toList):=by kernel_rfl
theorem Zen:true=Tryz.pinned.checked.prog.looks []:=by kernel_rfl
theorem Zfa:false=Rows.denseRoundsRow.goesBy Tryz.pinned.checked.prog:=by kernel_rfl
theorem Zeo:([24,3].all fun u => !Tryz.prog.wantsStandIn u)=true:=by kernel_rfl
theorem denseRounds_card:Rows.DenseRoundsCardSaid :=
 Claim7.holds_tied_plain_at .later [] [.data, .data, .data, .sentinel, .sentinel] true Rows.denseRoundsCard.stood.harness true
  Zgd (fun _ h=>by cases h) ZgR (fun _ h=>by cases h) denseRounds_row_tie rfl ⟨rfl,rfl⟩ Ze9 rfl
  (fun f fn hf hfn=>by
   obtain rfl:f=3:=Option.some.inj ((Zaw).symm.trans hf) |>.symm
   obtain rfl:fn=Tryz.f3:=(Option.some.inj (Tryz.func3.symm.trans hfn)).symm
   exact ⟨Zen,fun j t ht=>by
    rw [Tryz.params3] at ht
    have hm:t ∈ [24,3]:=by simpa using Array.mem_of_getElem? ht
    exact (show Tryz.prog.wantsStandIn t=false by simpa using List.all_eq_true.1 Zeo t hm)⟩)
  Zfa
#print axioms denseRounds_card
end Go.Proofs.YtenchljfmfgeoaaGreatDoor
