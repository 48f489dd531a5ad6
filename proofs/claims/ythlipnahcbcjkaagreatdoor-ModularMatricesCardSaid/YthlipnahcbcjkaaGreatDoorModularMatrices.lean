/-
 My texts MmP put together.
-/
import Derived.Test.YthlipnahcbcjkaaGreatDoorR09
import Derived.Test.YthlipnahcbcjkaaGreatDoorR22
import Derived.Test.YthlipnahcbcjkaaGreatDoorR24
import Derived.Test.YthlipnahcbcjkaaGreatDoorTie
import Derived.Test.YthlipnahcbcjkaaGreatDoorCards
import Derived.SevenTiedAt
import Derived.ChangeOld
import Derived.Below
set_option maxRecDepth 100000
namespace Go.Proofs.YthlipnahcbcjkaaGreatDoor
open Go.ChangeShapes Go.WideShapes Go.ChangeAt Go.RowKit
open Go.ChangeMaps (open_string shut_string)
theorem Zds:laidOutB Tryz.prog=true:=by kernel_rfl
theorem ZfF (os:Os) (started:os.Started) (H:Type) (enc:TypeId × Value→H) :
 ReturnsInHanded {} Tryz.checked os 4 .any (fun w args=>(Rows.modularMatricesSpec.pre enc Tryz.prog Tryz.f4 [] false w args∧laidMetH Tryz.prog ZiB w)∧sizedMet enc Tryz.prog Tryz.f4 (OpenSpec.ofChange Rows.modularMatricesSpec) false w args)
  (Rows.modularMatricesSpec.post enc Tryz.prog Tryz.f4 false true false false):=by
 refine returnsInHanded_of_change_and (C:=Tryz.checked) (X:=fun w _=>laidMetH Tryz.prog ZiB w) (fun _ _ _ hh h=>h.of_heap hh) own started (by kernel_rfl) Tryz.func4
  (ChangeSpec.witness_shaped (enc:=enc) (C:=Tryz.checked) (os:=os) (X:=fun w _=>laidMetH Tryz.prog ZiB w) false (World.doorLaid Tryz.prog 400 os) #[.slice none 0 0, .slice none 0 0, .int .i64 0] 8 rfl (World.shaped_of_RefB (by kernel_rfl) (by kernel_rfl)) (by kernel_rfl) (by kernel_rfl) (by kernel_rfl) (Zn4 os _)) ?_
 intro W base args ds gs before hval0 hW _ _ hL _
 have hval:∀ (j:Nat) t v,Tryz.f4.params[j]? = some t→args[j]? = some v→Value.okWide Tryz.prog W .any base t v:=hval0
 have hW':=hW
 obtain ⟨p,q,hA0,hV,rfl,hfz,hnd⟩:=hW
 have hA:DataW.TrodAll enc Tryz.prog W 0 (fun _=>true) true Tryz.f4.params.toList args.toList ds p:=hA0
 rw [Tryz.params4] at hA hval
 obtain ⟨v0,vs0,d0,ds0,p0,q0,hargs,rfl,rfl,h0,r0⟩:=trodAll_cons hA
 obtain ⟨v1,vs1,d1,ds1,p1,q1,rfl,rfl,rfl,h1,r1⟩:=trodAll_cons r0
 obtain ⟨v2,vs2,d2,ds2,p2,q2,rfl,rfl,rfl,h2,r2⟩:=trodAll_cons r1
 obtain ⟨rfl,rfl,rfl⟩:=trodAll_nil r2
 obtain rfl:args=#[v0,v1,v2]:=by cases args; simp_all
 obtain ⟨rfl,rfl⟩:=trodVars_none hV
 obtain ⟨a0,len0,cap0,rfl⟩:=okWide_slice Tryz.underlying22 (hval 0 22 v0 rfl rfl)
 have k0:=h0
 have lt0:∀ x ∈ p0,x.block < W.heap.size:=by obtain ⟨m,hm⟩:=k0; exact DataW.trod_lt m _ _ _ hm
 obtain ⟨R0,C0,Z0,w0⟩:∃ R C Z,ArgI W a0 len0 R C Z:=by obtain ⟨fuel,hf⟩:=h0; exact ZoH hf
 obtain ⟨a1,len1,cap1,rfl⟩:=okWide_slice Tryz.underlying23 (hval 1 23 v1 rfl rfl)
 have k1:=h1
 have lt1:∀ x ∈ p1,x.block < W.heap.size:=by obtain ⟨m,hm⟩:=k1; exact DataW.trod_lt m _ _ _ hm
 obtain ⟨z1,w1⟩:∃ zs,Zky .i64 W a1 len1 cap1 zs:=by
  obtain ⟨fuel,hf⟩:=h1
  rcases open_ints Tryz.underlying23 Tryz.underlying3 (by kernel_rfl) hf with ⟨hcs,_⟩ | ⟨x,l,c,zs,hcs,_,hl,hm,hz,_,hcell,hwz⟩
  ·simp [Value.cells] at hcs
   obtain ⟨rfl,rfl,rfl⟩:=hcs
   exact ⟨[], .inl ⟨rfl,rfl,rfl,rfl⟩⟩
  ·simp [Value.cells] at hcs
   obtain ⟨rfl,rfl,rfl⟩:=hcs
   exact ⟨zs, .inr ⟨_,rfl,hl,hm,by simpa using hz,hcell,hwz⟩⟩
 obtain ⟨a2,rfl,rfl,rfl,w2⟩:=open_int Tryz.underlying3 (hval 2 3 v2 rfl rfl) h2
 clear hA0 hval0
 simp only [List.append_nil] at hW'
 obtain ⟨e11,e12,e13,e14,e15⟩:=w1.parts
 refine (ZgK a0 len0 cap0 R0 C0 Z0 a1 len1 cap1 (z1.take len1) a2 W (ZkJ hL) w0 e12 e11 e13).mono fun e W' ⟨he,Q⟩=>?_
 subst he
 have bel:=Fr.toBelow Q
 exact ⟨_,rfl,_,_,_,[],_,[],hW',trodAll_mk1 (shut_bool Tryz.underlying4 _),(trodAll_cons_mk (Below.trod Zds (by kernel_rfl) (of_decide_eq_true (by kernel_rfl)) k0 bel lt0) (trodAll_cons_mk (Below.trod Zds (by kernel_rfl) (of_decide_eq_true (by kernel_rfl)) k1 bel lt1) (trodAll_cons_mk (shut_int Tryz.underlying3 w2) trodAll_mk0))),rfl,bel.frame _,fun h=>by cases h⟩
theorem ZdU : Tryz.prog.funcNamed "sosopt/sosoptlaw02.ModularMatrices" = some 4 := by kernel_rfl
theorem Zhg:(Rows.modularMatricesRow.inPlace == Tryz.pinned.checked.prog.inPlace 4)=true:=by kernel_rfl
theorem Zhh:(Rows.modularMatricesRow.unfollowed == Tryz.pinned.checked.prog.unfollowed 4)=true:=by kernel_rfl
theorem Zhi:(Rows.modularMatricesRow.recurses == Tryz.pinned.checked.prog.recurses 4)=true:=by kernel_rfl
theorem Zhj:(Rows.modularMatricesRow.named == Tryz.pinned.checked.prog.varsNamed 4)=true:=by kernel_rfl
theorem ZfG:joinedFacts Tryz.pinned.checked.prog 4 Tryz.f4 Rows.modularMatricesSpec Rows.modularMatricesRow=true:=by
 unfold joinedFacts
 rw [Zhg,Zhh,Zhi,Zhj]
 kernel_rfl
theorem ZgA:Tryz.f4.isInstance Tryz.pinned.checked.prog Rows.modularMatricesRow.origin Rows.modularMatricesRow.targs:=of_decide_eq_true (by kernel_rfl)
theorem ZgB:Tryz.f4.isWrapper Tryz.pinned.checked.prog Rows.modularMatricesRow.wrapper Rows.modularMatricesRow.mainSum:=by unfold Func.isWrapper; first | (rw [if_pos (by decide +kernel)]; kernel_rfl) | (rw [if_neg (by decide +kernel)]; exact ⟨rfl,rfl⟩)
theorem ZgL:Rows.ModularMatricesSaid :=
 OpenClaim.holds_of_wide 4 Tryz.f4 rfl rfl rfl rfl rfl rfl rfl ⟨rfl,rfl,rfl,rfl,rfl⟩ rfl rfl rfl rfl rfl ZdU Tryz.func4 ZfG ZgA ZgB
  (fun os started H enc _=>ZfF os started H enc)
theorem Zhk:Rows.modularMatricesRow.wfByText (OpenSpec.ofChange Rows.modularMatricesSpec)=true:=by kernel_rfl
theorem ZgC:Tryz.pinned.checked.prog.mainIs=some (Rows.modularMatricesCard.stood.harness.1,Rows.modularMatricesCard.stood.harness.2.toList):=by kernel_rfl
theorem Zf1:true=Tryz.pinned.checked.prog.looks []:=by kernel_rfl
theorem ZgD:false=Rows.modularMatricesRow.goesBy Tryz.pinned.checked.prog:=by kernel_rfl
theorem Zf2:([22,23,3].all fun u => !Tryz.prog.wantsStandIn u)=true:=by kernel_rfl
theorem modularMatrices_card:Rows.ModularMatricesCardSaid :=
 Claim7.holds_tied_plain_at .later [] [.data, .data, .data] true Rows.modularMatricesCard.stood.harness true
  ZgL (fun _ h=>by cases h) Zhk (fun _ h=>by cases h) modularMatrices_row_tie rfl ⟨rfl,rfl⟩ ZgC rfl
  (fun f fn hf hfn=>by
   obtain rfl:f=4:=Option.some.inj ((ZdU).symm.trans hf) |>.symm
   obtain rfl:fn=Tryz.f4:=(Option.some.inj (Tryz.func4.symm.trans hfn)).symm
   exact ⟨Zf1,fun j t ht=>by
    rw [Tryz.params4] at ht
    have hm:t ∈ [22,23,3]:=by simpa using Array.mem_of_getElem? ht
    exact (show Tryz.prog.wantsStandIn t=false by simpa using List.all_eq_true.1 Zf2 t hm)⟩)
  ZgD
#print axioms modularMatrices_card
end Go.Proofs.YthlipnahcbcjkaaGreatDoor
