/-
  InteriorStarts: Start returns the specified iterate, or the specified error; the law returns true and its arguments are not changed.
  Conditions: the listed tables of the library hold what the program's text lays there (the card ties them).
-/
import Derived.Test.YtdlgidnkmbklcaaGreatDoorZ09
import Derived.Test.YtdlgidnkmbklcaaGreatDoorZ16
import Derived.Test.YtdlgidnkmbklcaaGreatDoorZ25
import Derived.Test.YtdlgidnkmbklcaaGreatDoorTie
import Derived.Test.YtdlgidnkmbklcaaGreatDoorCards
set_option maxRecDepth 100000
set_option maxHeartbeats 8000000
namespace Go.Proofs.YtdlgidnkmbklcaaGreatDoor
open Go.ChangeShapes Go.WideShapes Go.ChangeAt Go.RowKit
open Go.ChangeMaps (open_string shut_string)
theorem ZbZ:laidOutB Tryz.prog=true:=by kernel_rfl
theorem Zcp (os:Os) (started:os.Started) (H:Type) (enc:TypeId × Value→H) :
 ReturnsInHanded {} Tryz.checked os 3 .any (fun w args=>(Rows.interiorStartsSpec.pre enc Tryz.prog Tryz.f3 [] false w args∧laidMetH Tryz.prog ZfB w)∧sizedMet enc Tryz.prog Tryz.f3 (OpenSpec.ofChange Rows.interiorStartsSpec) false w args)
  (Rows.interiorStartsSpec.post enc Tryz.prog Tryz.f3 false true false false):=by
 refine returnsInHanded_of_change_and (C:=Tryz.checked) (X:=fun w _=>laidMetH Tryz.prog ZfB w) (fun _ _ _ hh h=>h.of_heap hh) own started (by kernel_rfl) Tryz.func3
  (ChangeSpec.witness_shaped (enc:=enc) (C:=Tryz.checked) (os:=os) (X:=fun w _=>laidMetH Tryz.prog ZfB w) false (World.doorLaid Tryz.prog 400 os) #[.slice none 0 0, .string ⟨#[]⟩, .int .i64 0] 8 rfl (World.shaped_of_RefB (by kernel_rfl) (by kernel_rfl)) (by kernel_rfl) (by kernel_rfl) (by kernel_rfl) (ZmP os _)) ?_
 intro W base args ds gs before hval0 hW _ _ hL _
 have hval:∀ (j:Nat) t v,Tryz.f3.params[j]? = some t→args[j]? = some v→Value.okWide Tryz.prog W .any base t v:=hval0
 have hW':=hW
 obtain ⟨p,q,hA0,hV,rfl,hfz,hnd⟩:=hW
 have hA:DataW.TrodAll enc Tryz.prog W 0 (fun _=>true) true Tryz.f3.params.toList args.toList ds p:=hA0
 rw [Tryz.params3] at hA hval
 obtain ⟨v0,vs0,d0,ds0,p0,q0,hargs,rfl,rfl,h0,r0⟩:=trodAll_cons hA
 obtain ⟨v1,vs1,d1,ds1,p1,q1,rfl,rfl,rfl,h1,r1⟩:=trodAll_cons r0
 obtain ⟨v2,vs2,d2,ds2,p2,q2,rfl,rfl,rfl,h2,r2⟩:=trodAll_cons r1
 obtain ⟨rfl,rfl,rfl⟩:=trodAll_nil r2
 obtain rfl:args=#[v0,v1,v2]:=by cases args; simp_all
 obtain ⟨rfl,rfl⟩:=trodVars_none hV
 obtain ⟨a0,len0,cap0,rfl⟩:=okWide_slice Tryz.underlying22 (hval 0 22 v0 rfl rfl)
 have k0:=h0
 have lt0:∀ x ∈ p0,x.block < W.heap.size:=by obtain ⟨m,hm⟩:=k0; exact DataW.trod_lt m _ _ _ hm
 obtain ⟨z0,w0⟩:∃ zs,ZlU .i64 W a0 len0 cap0 zs:=by
  obtain ⟨fuel,hf⟩:=h0
  rcases open_ints Tryz.underlying22 Tryz.underlying3 (by kernel_rfl) hf with ⟨hcs,_⟩ | ⟨x,l,c,zs,hcs,_,hl,hm,hz,_,hcell,hwz⟩
  ·simp [Value.cells] at hcs
   obtain ⟨rfl,rfl,rfl⟩:=hcs
   exact ⟨[], .inl ⟨rfl,rfl,rfl,rfl⟩⟩
  ·simp [Value.cells] at hcs
   obtain ⟨rfl,rfl,rfl⟩:=hcs
   exact ⟨zs, .inr ⟨_,rfl,hl,hm,by simpa using hz,hcell,hwz⟩⟩
 obtain ⟨a1,rfl,rfl,rfl,w1⟩:=open_string Tryz.underlying9 (hval 1 9 v1 rfl rfl) h1
 obtain ⟨a2,rfl,rfl,rfl,w2⟩:=open_int Tryz.underlying3 (hval 2 3 v2 rfl rfl) h2
 clear hA0 hval0
 simp only [List.append_nil] at hW'
 obtain ⟨e01,e02,e03,e04,e05⟩:=w0.parts
 refine (Zd5 a0 len0 cap0 _ a1 a2 W (ZhW hL) e01 e02 e04).mono fun e W' ⟨he,Q⟩=>?_
 subst he
 have bel:=Fr.toBelow Q
 exact ⟨_,rfl,_,_,_,[],_,[],hW',trodAll_mk1 (shut_bool Tryz.underlying4 _),(trodAll_cons_mk (Below.trod ZbZ (by kernel_rfl) (of_decide_eq_true (by kernel_rfl)) k0 bel lt0) (trodAll_cons_mk (shut_string Tryz.underlying9 w1) (trodAll_cons_mk (shut_int Tryz.underlying3 w2) trodAll_mk0))),rfl,bel.frame _,fun h=>by cases h⟩
theorem aU : Tryz.prog.funcNamed "sosopt/sosoptlaw26.InteriorStarts" = some 3 := by kernel_rfl
theorem ZeA:(Rows.interiorStartsRow.inPlace == Tryz.pinned.checked.prog.inPlace 3)=true:=by kernel_rfl
theorem ZeB:(Rows.interiorStartsRow.unfollowed == Tryz.pinned.checked.prog.unfollowed 3)=true:=by kernel_rfl
theorem ZeC:(Rows.interiorStartsRow.recurses == Tryz.pinned.checked.prog.recurses 3)=true:=by kernel_rfl
theorem ZeD:(Rows.interiorStartsRow.named == Tryz.pinned.checked.prog.varsNamed 3)=true:=by kernel_rfl
theorem Zcq:joinedFacts Tryz.pinned.checked.prog 3 Tryz.f3 Rows.interiorStartsSpec Rows.interiorStartsRow=true:=by
 unfold joinedFacts
 rw [ZeA,ZeB,ZeC,ZeD]
 kernel_rfl
theorem Zdg:Tryz.f3.isInstance Tryz.pinned.checked.prog Rows.interiorStartsRow.origin Rows.interiorStartsRow.targs:=of_decide_eq_true (by kernel_rfl)
theorem Zdh:Tryz.f3.isWrapper Tryz.pinned.checked.prog Rows.interiorStartsRow.wrapper Rows.interiorStartsRow.mainSum:=by unfold Func.isWrapper; first | (rw [if_pos (by decide +kernel)]; kernel_rfl) | (rw [if_neg (by decide +kernel)]; exact ⟨rfl,rfl⟩)
theorem Zd6:Rows.InteriorStartsSaid :=
 OpenClaim.holds_of_wide 3 Tryz.f3 rfl rfl rfl rfl rfl rfl rfl ⟨rfl,rfl,rfl,rfl,rfl⟩ rfl rfl rfl rfl rfl aU Tryz.func3 Zcq Zdg Zdh
  (fun os started H enc _=>Zcp os started H enc)
theorem ZeE:Rows.interiorStartsRow.wfByText (OpenSpec.ofChange Rows.interiorStartsSpec)=true:=by kernel_rfl
theorem Zdi:Tryz.pinned.checked.prog.mainIs=some (Rows.interiorStartsCard.stood.harness.1,Rows.interiorStartsCard.stood.harness.2.toList):=by kernel_rfl
theorem Zc4:true=Tryz.pinned.checked.prog.looks []:=by kernel_rfl
theorem Zdj:false=Rows.interiorStartsRow.goesBy Tryz.pinned.checked.prog:=by kernel_rfl
theorem Zc5:([22,9,3].all fun u => !Tryz.prog.wantsStandIn u)=true:=by kernel_rfl
theorem interiorStarts_card:Rows.InteriorStartsCardSaid :=
 Claim7.holds_tied_plain_at .later [] [.data, .data, .data, .sentinel, .sentinel] true Rows.interiorStartsCard.stood.harness true
  Zd6 (fun _ h=>by cases h) ZeE (fun _ h=>by cases h) interiorStarts_row_tie rfl ⟨rfl,rfl⟩ Zdi rfl
  (fun f fn hf hfn=>by
   obtain rfl:f=3:=Option.some.inj ((aU).symm.trans hf) |>.symm
   obtain rfl:fn=Tryz.f3:=(Option.some.inj (Tryz.func3.symm.trans hfn)).symm
   exact ⟨Zc4,fun j t ht=>by
    rw [Tryz.params3] at ht
    have hm:t ∈ [22,9,3]:=by simpa using Array.mem_of_getElem? ht
    exact (show Tryz.prog.wantsStandIn t=false by simpa using List.all_eq_true.1 Zc5 t hm)⟩)
  Zdj
#print axioms interiorStarts_card
end Go.Proofs.YtdlgidnkmbklcaaGreatDoor
