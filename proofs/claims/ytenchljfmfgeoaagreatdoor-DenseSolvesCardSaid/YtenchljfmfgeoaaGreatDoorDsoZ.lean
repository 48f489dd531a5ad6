/-
  DenseSolves: DenseSolves: triangular systems with integers and a diagonal of ones are solved exactly by Lower and Upper (without the reference).
  Conditions: the listed tables of the library hold what the program's text lays there (the card ties them).
-/
import Derived.Test.YtenchljfmfgeoaaGreatDoorV09
import Derived.Test.YtenchljfmfgeoaaGreatDoorV16
import Derived.Test.YtenchljfmfgeoaaGreatDoorV24
import Derived.Test.YtenchljfmfgeoaaGreatDoorTie
import Derived.Test.YtenchljfmfgeoaaGreatDoorCards
set_option maxRecDepth 100000
set_option maxHeartbeats 8000000
namespace Go.Proofs.YtenchljfmfgeoaaGreatDoor
open Go.ChangeShapes Go.WideShapes Go.ChangeAt Go.RowKit
open Go.ChangeMaps (open_string shut_string)
theorem Zdh:laidOutB Tryz.prog=true:=by kernel_rfl
theorem Zd7 (os:Os) (started:os.Started) (H:Type) (enc:TypeId × Value→H) :
 ReturnsInHanded {} Tryz.checked os 5 .any (fun w args=>(Rows.denseSolvesSpec.pre enc Tryz.prog Tryz.f5 [] false w args∧laidMetH Tryz.prog Zfw w)∧sizedMet enc Tryz.prog Tryz.f5 (OpenSpec.ofChange Rows.denseSolvesSpec) false w args)
  (Rows.denseSolvesSpec.post enc Tryz.prog Tryz.f5 false true false false):=by
 refine returnsInHanded_of_change_and (C:=Tryz.checked) (X:=fun w _=>laidMetH Tryz.prog Zfw w) (fun _ _ _ hh h=>h.of_heap hh) own started (by kernel_rfl) Tryz.func5
  (ChangeSpec.witness_shaped (enc:=enc) (C:=Tryz.checked) (os:=os) (X:=fun w _=>laidMetH Tryz.prog Zfw w) false (World.doorLaid Tryz.prog 400 os) #[.slice none 0 0] 8 rfl (World.shaped_of_RefB (by kernel_rfl) (by kernel_rfl)) (by kernel_rfl) (by kernel_rfl) (by kernel_rfl) (Zmq os _)) ?_
 intro W base args ds gs before hval0 hW _ _ hL _
 have hval:∀ (j:Nat) t v,Tryz.f5.params[j]? = some t→args[j]? = some v→Value.okWide Tryz.prog W .any base t v:=hval0
 have hW':=hW
 obtain ⟨p,q,hA0,hV,rfl,hfz,hnd⟩:=hW
 have hA:DataW.TrodAll enc Tryz.prog W 0 (fun _=>true) true Tryz.f5.params.toList args.toList ds p:=hA0
 rw [Tryz.params5] at hA hval
 obtain ⟨v0,vs0,d0,ds0,p0,q0,hargs,rfl,rfl,h0,r0⟩:=trodAll_cons hA
 obtain ⟨rfl,rfl,rfl⟩:=trodAll_nil r0
 obtain rfl:args=#[v0]:=by cases args; simp_all
 obtain ⟨rfl,rfl⟩:=trodVars_none hV
 obtain ⟨a0,len0,cap0,rfl⟩:=okWide_slice Tryz.underlying50 (hval 0 50 v0 rfl rfl)
 have k0:=h0
 have lt0:∀ x ∈ p0,x.block < W.heap.size:=by obtain ⟨m,hm⟩:=k0; exact DataW.trod_lt m _ _ _ hm
 obtain ⟨z0,w0⟩:∃ zs,Zlu .i64 W a0 len0 cap0 zs:=by
  obtain ⟨fuel,hf⟩:=h0
  rcases open_ints Tryz.underlying50 Tryz.underlying3 (by kernel_rfl) hf with ⟨hcs,_⟩ | ⟨x,l,c,zs,hcs,_,hl,hm,hz,_,hcell,hwz⟩
  ·simp [Value.cells] at hcs
   obtain ⟨rfl,rfl,rfl⟩:=hcs
   exact ⟨[], .inl ⟨rfl,rfl,rfl,rfl⟩⟩
  ·simp [Value.cells] at hcs
   obtain ⟨rfl,rfl,rfl⟩:=hcs
   exact ⟨zs, .inr ⟨_,rfl,hl,hm,by simpa using hz,hcell,hwz⟩⟩
 clear hA0 hval0
 simp only [List.append_nil] at hW'
 obtain ⟨e01,e02,e03,e04,e05⟩:=w0.parts
 refine (Zgu a0 len0 cap0 _ W (ZhP hL) e01 e02 e04).mono fun e W' ⟨he,Q⟩=>?_
 subst he
 have bel:=Fr.toBelow Q
 exact ⟨_,rfl,_,_,_,[],_,[],hW',trodAll_mk1 (shut_bool Tryz.underlying4 _),(trodAll_cons_mk (Below.trod Zdh (by kernel_rfl) (of_decide_eq_true (by kernel_rfl)) k0 bel lt0) trodAll_mk0),rfl,bel.frame _,fun h=>by cases h⟩
theorem Zau : Tryz.prog.funcNamed "sosopt/sosoptlaw24.DenseSolves" = some 5 := by kernel_rfl
theorem Zg4:(Rows.denseSolvesRow.inPlace == Tryz.pinned.checked.prog.inPlace 5)=true:=by kernel_rfl
theorem Zg5:(Rows.denseSolvesRow.unfollowed == Tryz.pinned.checked.prog.unfollowed 5)=true:=by kernel_rfl
theorem Zg6:(Rows.denseSolvesRow.recurses == Tryz.pinned.checked.prog.recurses 5)=true:=by kernel_rfl
theorem Zg7:(Rows.denseSolvesRow.named == Tryz.pinned.checked.prog.varsNamed 5)=true:=by kernel_rfl
theorem Zd8:joinedFacts Tryz.pinned.checked.prog 5 Tryz.f5 Rows.denseSolvesSpec Rows.denseSolvesRow=true:=by
 unfold joinedFacts
 rw [Zg4,Zg5,Zg6,Zg7]
 kernel_rfl
theorem Zfl:Tryz.f5.isInstance Tryz.pinned.checked.prog Rows.denseSolvesRow.origin Rows.denseSolvesRow.targs:=of_decide_eq_true (by kernel_rfl)
theorem Zfm:Tryz.f5.isWrapper Tryz.pinned.checked.prog Rows.denseSolvesRow.wrapper Rows.denseSolvesRow.mainSum:=by unfold Func.isWrapper; first | (rw [if_pos (by decide +kernel)]; kernel_rfl) | (rw [if_neg (by decide +kernel)]; exact ⟨rfl,rfl⟩)
theorem Zgv:Rows.DenseSolvesSaid :=
 OpenClaim.holds_of_wide 5 Tryz.f5 rfl rfl rfl rfl rfl rfl rfl ⟨rfl,rfl,rfl,rfl,rfl⟩ rfl rfl rfl rfl rfl Zau Tryz.func5 Zd8 Zfl Zfm
  (fun os started H enc _=>Zd7 os started H enc)
theorem Zg8:Rows.denseSolvesRow.wfByText (OpenSpec.ofChange Rows.denseSolvesSpec)=true:=by kernel_rfl
theorem Zfn:Tryz.pinned.checked.prog.mainIs=some (Rows.denseSolvesCard.stood.harness.1,Rows.denseSolvesCard.stood.harness.2.toList):=by kernel_rfl
theorem ZeF:true=Tryz.pinned.checked.prog.looks []:=by kernel_rfl
theorem Zfo:false=Rows.denseSolvesRow.goesBy Tryz.pinned.checked.prog:=by kernel_rfl
theorem ZeG:([50].all fun u => !Tryz.prog.wantsStandIn u)=true:=by kernel_rfl
theorem denseSolves_card:Rows.DenseSolvesCardSaid :=
 Claim7.holds_tied_plain_at .later [] [.data, .data, .data, .sentinel, .sentinel] true Rows.denseSolvesCard.stood.harness true
  Zgv (fun _ h=>by cases h) Zg8 (fun _ h=>by cases h) denseSolves_row_tie rfl ⟨rfl,rfl⟩ Zfn rfl
  (fun f fn hf hfn=>by
   obtain rfl:f=5:=Option.some.inj ((Zau).symm.trans hf) |>.symm
   obtain rfl:fn=Tryz.f5:=(Option.some.inj (Tryz.func5.symm.trans hfn)).symm
   exact ⟨ZeF,fun j t ht=>by
    rw [Tryz.params5] at ht
    have hm:t ∈ [50]:=by simpa using Array.mem_of_getElem? ht
    exact (show Tryz.prog.wantsStandIn t=false by simpa using List.all_eq_true.1 ZeG t hm)⟩)
  Zfo
#print axioms denseSolves_card
end Go.Proofs.YtenchljfmfgeoaaGreatDoor
