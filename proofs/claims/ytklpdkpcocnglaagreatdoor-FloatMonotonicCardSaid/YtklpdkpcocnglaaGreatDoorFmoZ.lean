/-
 My texts FmoP put together.
-/
import Derived.Test.YtklpdkpcocnglaaGreatDoorX09
import Derived.Test.YtklpdkpcocnglaaGreatDoorX29
import Derived.Test.YtklpdkpcocnglaaGreatDoorTie
import Derived.Test.YtklpdkpcocnglaaGreatDoorCards
import Derived.SevenTiedAt
import Derived.ChangeOld
import Derived.Below
import Derived.SizedLaws
set_option maxRecDepth 100000
set_option maxHeartbeats 8000000
namespace Go.Proofs.YtklpdkpcocnglaaGreatDoor
open Go.ChangeShapes Go.WideShapes Go.ChangeAt Go.RowKit
open Go.ChangeMaps (open_string shut_string)
theorem Zli:laidOutB Tryz.prog=true:=by kernel_rfl
theorem ZcV (os:Os) (started:os.Started) (H:Type) (enc:TypeId × Value→H) :
 ReturnsInHanded {} Tryz.checked os 8 .any (fun w args=>(Rows.floatMonotonicSpec.pre enc Tryz.prog Tryz.f8 [] false w args∧laidMetH Tryz.prog dR w)∧sizedMet enc Tryz.prog Tryz.f8 (OpenSpec.ofChange Rows.floatMonotonicSpec) false w args)
  (Rows.floatMonotonicSpec.post enc Tryz.prog Tryz.f8 false true false false):=by
 refine returnsInHanded_of_change_and (C:=Tryz.checked) (X:=fun w _=>laidMetH Tryz.prog dR w) (fun _ _ _ hh h=>h.of_heap hh) own started (by kernel_rfl) Tryz.func8
  (ChangeSpec.witness_shaped (enc:=enc) (C:=Tryz.checked) (os:=os) (X:=fun w _=>laidMetH Tryz.prog dR w) false (World.doorLaid Tryz.prog 400 os) #[.string ⟨#[]⟩, .string ⟨#[]⟩, .int .i64 0] 8 rfl (World.shaped_of_RefB (by kernel_rfl) (by kernel_rfl)) (by kernel_rfl) (by kernel_rfl) (by kernel_rfl) (Zb4 os _)) ?_
 intro W base args ds gs before hval0 hW _ hsz0 hL _
 have hval:∀ (j:Nat) t v,Tryz.f8.params[j]? = some t→args[j]? = some v→Value.okWide Tryz.prog W .any base t v:=hval0
 have hW':=hW
 obtain ⟨p,q,hA0,hV,rfl,hfz,hnd⟩:=hW
 have hA:DataW.TrodAll enc Tryz.prog W 0 (fun _=>true) true Tryz.f8.params.toList args.toList ds p:=hA0
 rw [Tryz.params8] at hA hval
 obtain ⟨v0,vs0,d0,ds0,p0,q0,hargs,rfl,rfl,h0,r0⟩:=trodAll_cons hA
 obtain ⟨v1,vs1,d1,ds1,p1,q1,rfl,rfl,rfl,h1,r1⟩:=trodAll_cons r0
 obtain ⟨v2,vs2,d2,ds2,p2,q2,rfl,rfl,rfl,h2,r2⟩:=trodAll_cons r1
 obtain ⟨rfl,rfl,rfl⟩:=trodAll_nil r2
 obtain rfl:args=#[v0,v1,v2]:=by cases args; simp_all
 obtain ⟨rfl,rfl⟩:=trodVars_none hV
 obtain ⟨a0,rfl,rfl,rfl,w0⟩:=open_string Tryz.underlying9 (hval 0 9 v0 rfl rfl) h0
 obtain ⟨a1,rfl,rfl,rfl,w1⟩:=open_string Tryz.underlying9 (hval 1 9 v1 rfl rfl) h1
 obtain ⟨a2,rfl,rfl,rfl,w2⟩:=open_int Tryz.underlying3 (hval 2 3 v2 rfl rfl) h2
 have hs0:a0.size≤140737488351232:=by
  have h:=sized_string (j:=0) (t:=9) hsz0 (by rw [Tryz.params8]; rfl) rfl
  exact h
 have hs1:a1.size≤140737488351232:=by
  have h:=sized_string (j:=1) (t:=9) hsz0 (by rw [Tryz.params8]; rfl) rfl
  exact h
 clear hA0 hval0
 simp only [List.append_nil] at hW'
 refine (ZeD a0 a1 a2 W (bW hL) hs0 hs1).mono fun e W' ⟨he,Q⟩=>?_
 subst he
 have bel:=Fr.toBelow Q
 exact ⟨_,rfl,_,_,_,[],_,[],hW',trodAll_mk1 (shut_bool Tryz.underlying4 _),(trodAll_cons_mk (shut_string Tryz.underlying9 w0) (trodAll_cons_mk (shut_string Tryz.underlying9 w1) (trodAll_cons_mk (shut_int Tryz.underlying3 w2) trodAll_mk0))),(by first | rfl | simp),bel.frame _,fun h=>by cases h⟩
theorem Zai : Tryz.prog.funcNamed "sosopt/sosoptlaw23.FloatMonotonic" = some 8 := by kernel_rfl
theorem Ze7:(Rows.floatMonotonicRow.inPlace == Tryz.pinned.checked.prog.inPlace 8)=true:=by kernel_rfl
theorem Ze8:(Rows.floatMonotonicRow.unfollowed == Tryz.pinned.checked.prog.unfollowed 8)=true:=by kernel_rfl
theorem Ze9:(Rows.floatMonotonicRow.recurses == Tryz.pinned.checked.prog.recurses 8)=true:=by kernel_rfl
theorem Zfa:(Rows.floatMonotonicRow.named == Tryz.pinned.checked.prog.varsNamed 8)=true:=by kernel_rfl
theorem ZcW:joinedFacts Tryz.pinned.checked.prog 8 Tryz.f8 Rows.floatMonotonicSpec Rows.floatMonotonicRow=true:=by
 unfold joinedFacts
 rw [Ze7,Ze8,Ze9,Zfa]
 kernel_rfl
theorem ZdL:Tryz.f8.isInstance Tryz.pinned.checked.prog Rows.floatMonotonicRow.origin Rows.floatMonotonicRow.targs:=of_decide_eq_true (by kernel_rfl)
theorem ZdM:Tryz.f8.isWrapper Tryz.pinned.checked.prog Rows.floatMonotonicRow.wrapper Rows.floatMonotonicRow.mainSum:=by unfold Func.isWrapper; first | (rw [if_pos (by decide +kernel)]; kernel_rfl) | (rw [if_neg (by decide +kernel)]; exact ⟨rfl,rfl⟩)
theorem ZeE:Rows.FloatMonotonicSaid :=
 OpenClaim.holds_of_wide 8 Tryz.f8 rfl rfl rfl rfl rfl rfl rfl ⟨rfl,rfl,rfl,rfl,rfl⟩ rfl rfl rfl rfl rfl Zai Tryz.func8 ZcW ZdL ZdM
  (fun os started H enc _=>ZcV os started H enc)
theorem Zfb:Rows.floatMonotonicRow.wfByText (OpenSpec.ofChange Rows.floatMonotonicSpec)=true:=by kernel_rfl
theorem ZdN:Tryz.pinned.checked.prog.mainIs=some (Rows.floatMonotonicCard.stood.harness.1,Rows.floatMonotonicCard.stood.harness.2.toList):=by kernel_rfl
theorem ZdA:true=Tryz.pinned.checked.prog.looks []:=by kernel_rfl
theorem ZdO:false=Rows.floatMonotonicRow.goesBy Tryz.pinned.checked.prog:=by kernel_rfl
theorem ZdB:([9,9,3].all fun u => !Tryz.prog.wantsStandIn u)=true:=by kernel_rfl
theorem floatMonotonic_card:Rows.FloatMonotonicCardSaid :=
 Claim7.holds_tied_plain_at .later [] [.data, .data, .data, .sentinel, .sentinel] true Rows.floatMonotonicCard.stood.harness true
  ZeE (fun _ h=>by cases h) Zfb (fun _ h=>by cases h) floatMonotonic_row_tie rfl ⟨rfl,rfl⟩ ZdN rfl
  (fun f fn hf hfn=>by
   obtain rfl:f=8:=Option.some.inj ((Zai).symm.trans hf) |>.symm
   obtain rfl:fn=Tryz.f8:=(Option.some.inj (Tryz.func8.symm.trans hfn)).symm
   exact ⟨ZdA,fun j t ht=>by
    rw [Tryz.params8] at ht
    have hm:t ∈ [9,9,3]:=by simpa using Array.mem_of_getElem? ht
    exact (show Tryz.prog.wantsStandIn t=false by simpa using List.all_eq_true.1 ZdB t hm)⟩)
  ZdO
#print axioms floatMonotonic_card
end Go.Proofs.YtklpdkpcocnglaaGreatDoor
