/-
  FormatDiffers: different certificates have different texts.
  Conditions: the listed tables of the library hold what the program's text lays there (the card ties them).
-/
import Derived.Test.YtoanifijmlgcgaaGreatDoorD09
import Derived.Test.YtoanifijmlgcgaaGreatDoorD17
import Derived.Test.YtoanifijmlgcgaaGreatDoorD23
import Derived.Test.YtoanifijmlgcgaaGreatDoorTie
import Derived.Test.YtoanifijmlgcgaaGreatDoorCards
import Derived.SevenTiedAt
import Derived.ChangeOld
import Derived.Below
set_option maxRecDepth 100000
set_option maxHeartbeats 8000000
namespace Go.Proofs.YtoanifijmlgcgaaGreatDoor
open Go.ChangeShapes Go.WideShapes Go.ChangeAt Go.RowKit
open Go.ChangeMaps (open_string shut_string)
theorem dE:laidOutB Tryz.prog=true:=by kernel_rfl
theorem ZbB (os:Os) (started:os.Started) (H:Type) (enc:TypeId × Value→H) :
 ReturnsInHanded {} Tryz.checked os 3 .any (fun w args=>(Rows.formatDiffersSpec.pre enc Tryz.prog Tryz.f3 [] false w args∧laidMetH Tryz.prog ZdX w)∧sizedMet enc Tryz.prog Tryz.f3 (OpenSpec.ofChange Rows.formatDiffersSpec) false w args)
  (Rows.formatDiffersSpec.post enc Tryz.prog Tryz.f3 false true false false):=by
 refine returnsInHanded_of_change_and (C:=Tryz.checked) (X:=fun w _=>laidMetH Tryz.prog ZdX w) (fun _ _ _ hh h=>h.of_heap hh) own started (by kernel_rfl) Tryz.func3
  (ChangeSpec.witness_shaped (enc:=enc) (C:=Tryz.checked) (os:=os) (X:=fun w _=>laidMetH Tryz.prog ZdX w) false (World.doorLaid Tryz.prog 400 os) #[.slice none 0 0, .slice none 0 0] 8 rfl (World.shaped_of_RefB (by kernel_rfl) (by kernel_rfl)) (by kernel_rfl) (by kernel_rfl) (by kernel_rfl) (Zk2 os _)) ?_
 intro W base args ds gs before hval0 hW _ _ hL _
 have hval:∀ (j:Nat) t v,Tryz.f3.params[j]? = some t→args[j]? = some v→Value.okWide Tryz.prog W .any base t v:=hval0
 have hW':=hW
 obtain ⟨p,q,hA0,hV,rfl,hfz,hnd⟩:=hW
 have hA:DataW.TrodAll enc Tryz.prog W 0 (fun _=>true) true Tryz.f3.params.toList args.toList ds p:=hA0
 rw [Tryz.params3] at hA hval
 obtain ⟨v0,vs0,d0,ds0,p0,q0,hargs,rfl,rfl,h0,r0⟩:=trodAll_cons hA
 obtain ⟨v1,vs1,d1,ds1,p1,q1,rfl,rfl,rfl,h1,r1⟩:=trodAll_cons r0
 obtain ⟨rfl,rfl,rfl⟩:=trodAll_nil r1
 obtain rfl:args=#[v0,v1]:=by cases args; simp_all
 obtain ⟨rfl,rfl⟩:=trodVars_none hV
 obtain ⟨a0,len0,cap0,rfl⟩:=okWide_slice Tryz.underlying22 (hval 0 22 v0 rfl rfl)
 have k0:=h0
 have lt0:∀ x ∈ p0,x.block < W.heap.size:=by obtain ⟨m,hm⟩:=k0; exact DataW.trod_lt m _ _ _ hm
 obtain ⟨z0,w0⟩:∃ zs,Zgk .i64 W a0 len0 cap0 zs:=by
  obtain ⟨fuel,hf⟩:=h0
  rcases open_ints Tryz.underlying22 Tryz.underlying3 (by kernel_rfl) hf with ⟨hcs,_⟩ | ⟨x,l,c,zs,hcs,_,hl,hm,hz,_,hcell,hwz⟩
  ·simp [Value.cells] at hcs
   obtain ⟨rfl,rfl,rfl⟩:=hcs
   exact ⟨[], .inl ⟨rfl,rfl,rfl,rfl⟩⟩
  ·simp [Value.cells] at hcs
   obtain ⟨rfl,rfl,rfl⟩:=hcs
   exact ⟨zs, .inr ⟨_,rfl,hl,hm,by simpa using hz,hcell,hwz⟩⟩
 obtain ⟨a1,len1,cap1,rfl⟩:=okWide_slice Tryz.underlying22 (hval 1 22 v1 rfl rfl)
 have k1:=h1
 have lt1:∀ x ∈ p1,x.block < W.heap.size:=by obtain ⟨m,hm⟩:=k1; exact DataW.trod_lt m _ _ _ hm
 obtain ⟨z1,w1⟩:∃ zs,Zgk .i64 W a1 len1 cap1 zs:=by
  obtain ⟨fuel,hf⟩:=h1
  rcases open_ints Tryz.underlying22 Tryz.underlying3 (by kernel_rfl) hf with ⟨hcs,_⟩ | ⟨x,l,c,zs,hcs,_,hl,hm,hz,_,hcell,hwz⟩
  ·simp [Value.cells] at hcs
   obtain ⟨rfl,rfl,rfl⟩:=hcs
   exact ⟨[], .inl ⟨rfl,rfl,rfl,rfl⟩⟩
  ·simp [Value.cells] at hcs
   obtain ⟨rfl,rfl,rfl⟩:=hcs
   exact ⟨zs, .inr ⟨_,rfl,hl,hm,by simpa using hz,hcell,hwz⟩⟩
 clear hA0 hval0
 simp only [List.append_nil] at hW'
 obtain ⟨e01,e02,e03,e04,e05⟩:=w0.parts
 obtain ⟨e11,e12,e13,e14,e15⟩:=w1.parts
 refine (Zc1 a0 a1 len0 len1 cap0 cap1 _ _ W (Zgt hL) e02 e12 e01 e11 e04 e14).mono fun e W' ⟨he,Q⟩=>?_
 subst he
 have bel:=Fr.toBelow Q
 exact ⟨_,rfl,_,_,_,[],_,[],hW',trodAll_mk1 (shut_bool Tryz.underlying4 _),(trodAll_cons_mk (Below.trod dE (by kernel_rfl) (of_decide_eq_true (by kernel_rfl)) k0 bel lt0) (trodAll_cons_mk (Below.trod dE (by kernel_rfl) (of_decide_eq_true (by kernel_rfl)) k1 bel lt1) trodAll_mk0)),rfl,bel.frame _,fun h=>by cases h⟩
theorem dW : Tryz.prog.funcNamed "sosopt/sosoptlaw42.FormatDiffers" = some 3 := by kernel_rfl
theorem ZdK:(Rows.formatDiffersRow.inPlace == Tryz.pinned.checked.prog.inPlace 3)=true:=by kernel_rfl
theorem ZdL:(Rows.formatDiffersRow.unfollowed == Tryz.pinned.checked.prog.unfollowed 3)=true:=by kernel_rfl
theorem ZdM:(Rows.formatDiffersRow.recurses == Tryz.pinned.checked.prog.recurses 3)=true:=by kernel_rfl
theorem ZdN:(Rows.formatDiffersRow.named == Tryz.pinned.checked.prog.varsNamed 3)=true:=by kernel_rfl
theorem ZbC:joinedFacts Tryz.pinned.checked.prog 3 Tryz.f3 Rows.formatDiffersSpec Rows.formatDiffersRow=true:=by
 unfold joinedFacts
 rw [ZdK,ZdL,ZdM,ZdN]
 kernel_rfl
theorem Zcx:Tryz.f3.isInstance Tryz.pinned.checked.prog Rows.formatDiffersRow.origin Rows.formatDiffersRow.targs:=of_decide_eq_true (by kernel_rfl)
theorem Zcy:Tryz.f3.isWrapper Tryz.pinned.checked.prog Rows.formatDiffersRow.wrapper Rows.formatDiffersRow.mainSum:=by unfold Func.isWrapper; first | (rw [if_pos (by decide +kernel)]; kernel_rfl) | (rw [if_neg (by decide +kernel)]; exact ⟨rfl,rfl⟩)
theorem Zc2:Rows.FormatDiffersSaid :=
 OpenClaim.holds_of_wide 3 Tryz.f3 rfl rfl rfl rfl rfl rfl rfl ⟨rfl,rfl,rfl,rfl,rfl⟩ rfl rfl rfl rfl rfl dW Tryz.func3 ZbC Zcx Zcy
  (fun os started H enc _=>ZbB os started H enc)
theorem ZdO:Rows.formatDiffersRow.wfByText (OpenSpec.ofChange Rows.formatDiffersSpec)=true:=by kernel_rfl
theorem Zcz:Tryz.pinned.checked.prog.mainIs=some (Rows.formatDiffersCard.stood.harness.1,Rows.formatDiffersCard.stood.harness.2.toList):=by kernel_rfl
theorem ZbQ:true=Tryz.pinned.checked.prog.looks []:=by kernel_rfl
theorem ZcA:false=Rows.formatDiffersRow.goesBy Tryz.pinned.checked.prog:=by kernel_rfl
theorem ZbR:([22,22].all fun u => !Tryz.prog.wantsStandIn u)=true:=by kernel_rfl
theorem formatDiffers_card:Rows.FormatDiffersCardSaid :=
 Claim7.holds_tied_plain_at .later [] [.data, .data, .data] true Rows.formatDiffersCard.stood.harness true
  Zc2 (fun _ h=>by cases h) ZdO (fun _ h=>by cases h) formatDiffers_row_tie rfl ⟨rfl,rfl⟩ Zcz rfl
  (fun f fn hf hfn=>by
   obtain rfl:f=3:=Option.some.inj ((dW).symm.trans hf) |>.symm
   obtain rfl:fn=Tryz.f3:=(Option.some.inj (Tryz.func3.symm.trans hfn)).symm
   exact ⟨ZbQ,fun j t ht=>by
    rw [Tryz.params3] at ht
    have hm:t ∈ [22,22]:=by simpa using Array.mem_of_getElem? ht
    exact (show Tryz.prog.wantsStandIn t=false by simpa using List.all_eq_true.1 ZbR t hm)⟩)
  ZcA
#print axioms formatDiffers_card
end Go.Proofs.YtoanifijmlgcgaaGreatDoor
