/-
  FormatLong: for every byte, texts of more than MaxProof bytes are refused with ErrLimit, shorter ones of digits 0 with ErrSyntax; the law returns true and its argument reads as before.
  Conditions: the listed tables of the library hold what the program's text lays there (the card ties them).
-/
import Derived.Test.YtcpjeaaapocoeaaGreatDoorF10
import Derived.Test.YtcpjeaaapocoeaaGreatDoorF19
import Derived.Test.YtcpjeaaapocoeaaGreatDoorTie
import Derived.Test.YtcpjeaaapocoeaaGreatDoorCards
import Derived.SevenTiedAt
import Derived.ChangeOld
import Derived.Below
set_option maxRecDepth 100000
namespace Go.Proofs.YtcpjeaaapocoeaaGreatDoor
open Go.ChangeShapes Go.WideShapes Go.ChangeAt Go.RowKit
open Go.ChangeMaps (open_string shut_string)
theorem ZjE:laidOutB Tryz.prog=true:=by kernel_rfl
theorem ZeR (os:Os) (started:os.Started) (H:Type) (enc:TypeId × Value→H) :
 ReturnsInHanded {} Tryz.checked os 7 .any (fun w args=>(Rows.formatLongSpec.pre enc Tryz.prog Tryz.f7 [] false w args∧laidMetH Tryz.prog ZdL w)∧sizedMet enc Tryz.prog Tryz.f7 (OpenSpec.ofChange Rows.formatLongSpec) false w args)
  (Rows.formatLongSpec.post enc Tryz.prog Tryz.f7 false true false false):=by
 refine returnsInHanded_of_change_and (C:=Tryz.checked) (X:=fun w _=>laidMetH Tryz.prog ZdL w) (fun _ _ _ hh h=>h.of_heap hh) own started (by kernel_rfl) Tryz.func7
  (ChangeSpec.witness_shaped (enc:=enc) (C:=Tryz.checked) (os:=os) (X:=fun w _=>laidMetH Tryz.prog ZdL w) false (World.laidAll Tryz.prog os ZdL) #[.int .u8 0] 8 (World.laidAll_os _ _ _) (World.shaped_of_ZipB (by kernel_rfl) (by kernel_rfl)) (by kernel_rfl) (by kernel_rfl) (by kernel_rfl) (Zi0 os _)) ?_
 intro W base args ds gs before hval0 hW _ _ hL _
 have hval:∀ (j:Nat) t v,Tryz.f7.params[j]? = some t→args[j]? = some v→Value.okWide Tryz.prog W .any base t v:=hval0
 have hW':=hW
 obtain ⟨p,q,hA0,hV,rfl,hfz,hnd⟩:=hW
 have hA:DataW.TrodAll enc Tryz.prog W 0 (fun _=>true) true Tryz.f7.params.toList args.toList ds p:=hA0
 rw [Tryz.params7] at hA hval
 obtain ⟨v0,vs0,d0,ds0,p0,q0,hargs,rfl,rfl,h0,r0⟩:=trodAll_cons hA
 obtain ⟨rfl,rfl,rfl⟩:=trodAll_nil r0
 obtain rfl:args=#[v0]:=by cases args; simp_all
 obtain ⟨rfl,rfl⟩:=trodVars_none hV
 obtain ⟨a0,rfl,rfl,rfl,w0⟩:=open_int Tryz.underlying5 (hval 0 5 v0 rfl rfl) h0
 clear hA0 hval0
 simp only [List.append_nil] at hW'
 refine (Zg4 a0 w0 W (ZgV hL)).mono fun e W' ⟨he,Q⟩=>?_
 subst he
 have bel:=Fr.toBelow Q
 exact ⟨_,rfl,_,_,_,[],_,[],hW',trodAll_mk1 (shut_bool Tryz.underlying4 _),(trodAll_cons_mk (shut_int Tryz.underlying5 w0) trodAll_mk0),(by first | rfl | simp),bel.frame _,fun h=>by cases h⟩
theorem Zdb : Tryz.prog.funcNamed "sosopt/sosoptlaw42.FormatLong" = some 7 := by kernel_rfl
theorem Zg5:(Rows.formatLongRow.inPlace == Tryz.pinned.checked.prog.inPlace 7)=true:=by kernel_rfl
theorem Zg6:(Rows.formatLongRow.unfollowed == Tryz.pinned.checked.prog.unfollowed 7)=true:=by kernel_rfl
theorem Zg7:(Rows.formatLongRow.recurses == Tryz.pinned.checked.prog.recurses 7)=true:=by kernel_rfl
theorem Zg8:(Rows.formatLongRow.named == Tryz.pinned.checked.prog.varsNamed 7)=true:=by kernel_rfl
theorem ZeS:joinedFacts Tryz.pinned.checked.prog 7 Tryz.f7 Rows.formatLongSpec Rows.formatLongRow=true:=by
 unfold joinedFacts
 rw [Zg5,Zg6,Zg7,Zg8]
 kernel_rfl
theorem Zga:Tryz.f7.isInstance Tryz.pinned.checked.prog Rows.formatLongRow.origin Rows.formatLongRow.targs:=of_decide_eq_true (by kernel_rfl)
theorem Zgb:Tryz.f7.isWrapper Tryz.pinned.checked.prog Rows.formatLongRow.wrapper Rows.formatLongRow.mainSum:=by unfold Func.isWrapper; first | (rw [if_pos (by decide +kernel)]; kernel_rfl) | (rw [if_neg (by decide +kernel)]; exact ⟨rfl,rfl⟩)
theorem Zgz:Rows.FormatLongSaid :=
 OpenClaim.holds_of_wide 7 Tryz.f7 rfl rfl rfl rfl rfl rfl rfl ⟨rfl,rfl,rfl,rfl,rfl⟩ rfl rfl rfl rfl rfl Zdb Tryz.func7 ZeS Zga Zgb
  (fun os started H enc _=>ZeR os started H enc)
theorem Zg9:Rows.formatLongRow.wfByText (OpenSpec.ofChange Rows.formatLongSpec)=true:=by kernel_rfl
theorem Zgc:Tryz.pinned.checked.prog.mainIs=some (Rows.formatLongCard.stood.harness.1,Rows.formatLongCard.stood.harness.2.toList):=by kernel_rfl
theorem Zfo:true=Tryz.pinned.checked.prog.looks []:=by kernel_rfl
theorem Zgd:false=Rows.formatLongRow.goesBy Tryz.pinned.checked.prog:=by kernel_rfl
theorem Zfp:([5].all fun u => !Tryz.prog.wantsStandIn u)=true:=by kernel_rfl
theorem formatLong_card:Rows.FormatLongCardSaid :=
 Claim7.holds_tied_plain_at .later [] [.data, .data, .data, .data, .sentinel, .sentinel, .pinned] true Rows.formatLongCard.stood.harness true
  Zgz (fun _ h=>by cases h) Zg9 (fun _ h=>by cases h) formatLong_row_tie rfl ⟨rfl,rfl⟩ Zgc rfl
  (fun f fn hf hfn=>by
   obtain rfl:f=7:=Option.some.inj ((Zdb).symm.trans hf) |>.symm
   obtain rfl:fn=Tryz.f7:=(Option.some.inj (Tryz.func7.symm.trans hfn)).symm
   exact ⟨Zfo,fun j t ht=>by
    rw [Tryz.params7] at ht
    have hm:t ∈ [5]:=by simpa using Array.mem_of_getElem? ht
    exact (show Tryz.prog.wantsStandIn t=false by simpa using List.all_eq_true.1 Zfp t hm)⟩)
  Zgd
#print axioms formatLong_card
end Go.Proofs.YtcpjeaaapocoeaaGreatDoor
