/-
  DenseTurns: the transpose of a product is the product of the transposes in the other order, bit by bit, transposing twice changes nothing, and Half is symmetric; the law returns true and its arguments read as before.
  Conditions: the listed tables of the library hold what the program's text lays there (the card ties them).
-/
import Derived.Test.YtenchljfmfgeoaaGreatDoorT09
import Derived.Test.YtenchljfmfgeoaaGreatDoorT16
import Derived.Test.YtenchljfmfgeoaaGreatDoorT25
import Derived.Test.YtenchljfmfgeoaaGreatDoorTie
import Derived.Test.YtenchljfmfgeoaaGreatDoorCards
import Derived.SevenTiedAt
import Derived.ChangeOld
import Derived.Below
set_option maxRecDepth 100000
set_option maxHeartbeats 8000000
namespace Go.Proofs.YtenchljfmfgeoaaGreatDoor
open Go.ChangeShapes Go.WideShapes Go.ChangeAt Go.RowKit
open Go.ChangeMaps (open_string shut_string)
theorem ZcI:laidOutB Tryz.prog=true:=by kernel_rfl
theorem Zc7 (os:Os) (started:os.Started) (H:Type) (enc:TypeId × Value→H) :
 ReturnsInHanded {} Tryz.checked os 6 .any (fun w args=>(Rows.denseTurnsSpec.pre enc Tryz.prog Tryz.f6 [] false w args∧laidMetH Tryz.prog ZdQ w)∧sizedMet enc Tryz.prog Tryz.f6 (OpenSpec.ofChange Rows.denseTurnsSpec) false w args)
  (Rows.denseTurnsSpec.post enc Tryz.prog Tryz.f6 false true false false):=by
 refine returnsInHanded_of_change_and (C:=Tryz.checked) (X:=fun w _=>laidMetH Tryz.prog ZdQ w) (fun _ _ _ hh h=>h.of_heap hh) own started (by kernel_rfl) Tryz.func6
  (ChangeSpec.witness_shaped (enc:=enc) (C:=Tryz.checked) (os:=os) (X:=fun w _=>laidMetH Tryz.prog ZdQ w) false (World.doorLaid Tryz.prog 400 os) #[.slice none 0 0, .int .i64 0] 8 rfl (World.shaped_of_RefB (by kernel_rfl) (by kernel_rfl)) (by kernel_rfl) (by kernel_rfl) (by kernel_rfl) (Zj9 os _)) ?_
 intro W base args ds gs before hval0 hW _ _ hL _
 have hval:∀ (j:Nat) t v,Tryz.f6.params[j]? = some t→args[j]? = some v→Value.okWide Tryz.prog W .any base t v:=hval0
 have hW':=hW
 obtain ⟨p,q,hA0,hV,rfl,hfz,hnd⟩:=hW
 have hA:DataW.TrodAll enc Tryz.prog W 0 (fun _=>true) true Tryz.f6.params.toList args.toList ds p:=hA0
 rw [Tryz.params6] at hA hval
 obtain ⟨v0,vs0,d0,ds0,p0,q0,hargs,rfl,rfl,h0,r0⟩:=trodAll_cons hA
 obtain ⟨v1,vs1,d1,ds1,p1,q1,rfl,rfl,rfl,h1,r1⟩:=trodAll_cons r0
 obtain ⟨rfl,rfl,rfl⟩:=trodAll_nil r1
 obtain rfl:args=#[v0,v1]:=by cases args; simp_all
 obtain ⟨rfl,rfl⟩:=trodVars_none hV
 obtain ⟨a0,len0,cap0,rfl⟩:=okWide_slice Tryz.underlying50 (hval 0 50 v0 rfl rfl)
 have k0:=h0
 have lt0:∀ x ∈ p0,x.block < W.heap.size:=by obtain ⟨m,hm⟩:=k0; exact DataW.trod_lt m _ _ _ hm
 obtain ⟨z0,w0⟩:∃ zs,Zje .i64 W a0 len0 cap0 zs:=by
  obtain ⟨fuel,hf⟩:=h0
  rcases open_ints Tryz.underlying50 Tryz.underlying3 (by kernel_rfl) hf with ⟨hcs,_⟩ | ⟨x,l,c,zs,hcs,_,hl,hm,hz,_,hcell,hwz⟩
  ·simp [Value.cells] at hcs
   obtain ⟨rfl,rfl,rfl⟩:=hcs
   exact ⟨[], .inl ⟨rfl,rfl,rfl,rfl⟩⟩
  ·simp [Value.cells] at hcs
   obtain ⟨rfl,rfl,rfl⟩:=hcs
   exact ⟨zs, .inr ⟨_,rfl,hl,hm,by simpa using hz,hcell,hwz⟩⟩
 obtain ⟨a1,rfl,rfl,rfl,w1⟩:=open_int Tryz.underlying3 (hval 1 3 v1 rfl rfl) h1
 clear hA0 hval0
 simp only [List.append_nil] at hW'
 obtain ⟨e01,e02,e03,e04,e05⟩:=w0.parts
 refine (Ze2 a0 len0 cap0 _ a1 W (ZfG hL) e01 e02 e04).mono fun e W' ⟨he,Q⟩=>?_
 subst he
 have bel:=Fr.toBelow Q
 exact ⟨_,rfl,_,_,_,[],_,[],hW',trodAll_mk1 (shut_bool Tryz.underlying4 _),(trodAll_cons_mk (Below.trod ZcI (by kernel_rfl) (of_decide_eq_true (by kernel_rfl)) k0 bel lt0) (trodAll_cons_mk (shut_int Tryz.underlying3 w1) trodAll_mk0)),rfl,bel.frame _,fun h=>by cases h⟩
theorem Zae : Tryz.prog.funcNamed "sosopt/sosoptlaw24.DenseTurns" = some 6 := by kernel_rfl
theorem ZfU:(Rows.denseTurnsRow.inPlace == Tryz.pinned.checked.prog.inPlace 6)=true:=by kernel_rfl
theorem ZfV:(Rows.denseTurnsRow.unfollowed == Tryz.pinned.checked.prog.unfollowed 6)=true:=by kernel_rfl
theorem ZfW:(Rows.denseTurnsRow.recurses == Tryz.pinned.checked.prog.recurses 6)=true:=by kernel_rfl
theorem ZfX:(Rows.denseTurnsRow.named == Tryz.pinned.checked.prog.varsNamed 6)=true:=by kernel_rfl
theorem Zc8:joinedFacts Tryz.pinned.checked.prog 6 Tryz.f6 Rows.denseTurnsSpec Rows.denseTurnsRow=true:=by
 unfold joinedFacts
 rw [ZfU,ZfV,ZfW,ZfX]
 kernel_rfl
theorem Zew:Tryz.f6.isInstance Tryz.pinned.checked.prog Rows.denseTurnsRow.origin Rows.denseTurnsRow.targs:=of_decide_eq_true (by kernel_rfl)
theorem Zex:Tryz.f6.isWrapper Tryz.pinned.checked.prog Rows.denseTurnsRow.wrapper Rows.denseTurnsRow.mainSum:=by unfold Func.isWrapper; first | (rw [if_pos (by decide +kernel)]; kernel_rfl) | (rw [if_neg (by decide +kernel)]; exact ⟨rfl,rfl⟩)
theorem Ze3:Rows.DenseTurnsSaid :=
 OpenClaim.holds_of_wide 6 Tryz.f6 rfl rfl rfl rfl rfl rfl rfl ⟨rfl,rfl,rfl,rfl,rfl⟩ rfl rfl rfl rfl rfl Zae Tryz.func6 Zc8 Zew Zex
  (fun os started H enc _=>Zc7 os started H enc)
theorem ZfY:Rows.denseTurnsRow.wfByText (OpenSpec.ofChange Rows.denseTurnsSpec)=true:=by kernel_rfl
theorem Zey:Tryz.pinned.checked.prog.mainIs=some (Rows.denseTurnsCard.stood.harness.1,Rows.denseTurnsCard.stood.harness.2.toList):=by kernel_rfl
theorem ZdH:true=Tryz.pinned.checked.prog.looks []:=by kernel_rfl
theorem Zez:false=Rows.denseTurnsRow.goesBy Tryz.pinned.checked.prog:=by kernel_rfl
theorem ZdI:([50,3].all fun u => !Tryz.prog.wantsStandIn u)=true:=by kernel_rfl
theorem denseTurns_card:Rows.DenseTurnsCardSaid :=
 Claim7.holds_tied_plain_at .later [] [.data, .data, .data, .sentinel, .sentinel] true Rows.denseTurnsCard.stood.harness true
  Ze3 (fun _ h=>by cases h) ZfY (fun _ h=>by cases h) denseTurns_row_tie rfl ⟨rfl,rfl⟩ Zey rfl
  (fun f fn hf hfn=>by
   obtain rfl:f=6:=Option.some.inj ((Zae).symm.trans hf) |>.symm
   obtain rfl:fn=Tryz.f6:=(Option.some.inj (Tryz.func6.symm.trans hfn)).symm
   exact ⟨ZdH,fun j t ht=>by
    rw [Tryz.params6] at ht
    have hm:t ∈ [50,3]:=by simpa using Array.mem_of_getElem? ht
    exact (show Tryz.prog.wantsStandIn t=false by simpa using List.all_eq_true.1 ZdI t hm)⟩)
  Zez
#print axioms denseTurns_card
end Go.Proofs.YtenchljfmfgeoaaGreatDoor
