/-
 My texts Rw, Small, Rat2 put together.
-/
import Derived.Test.YtcpjeaaapocoeaaGreatDoorG15
import Derived.Test.YtcpjeaaapocoeaaGreatDoorG16
import Derived.Shelf.Strings.SplitCore
import Derived.Test.YtcpjeaaapocoeaaGreatDoorG11
import Derived.Test.YtcpjeaaapocoeaaGreatDoorG14
import Derived.Outline
set_option maxRecDepth 100000
namespace Go.Proofs.YtcpjeaaapocoeaaGreatDoor
open Go.RowKit
theorem ZiM (ss:List ByteArray):ZaI ss=ZbQ 32 (ss.map (·.data.toList)):=by
 unfold ZaI ZbQ; rw [List.flatMap_map]
theorem Zk6 (s k:ByteArray) (ss:List ByteArray) (w:World) (hs:s.size < 4294967281) (hd:s.data.toList=bytes k ++ ZaI ss) (hk:∀ x ∈ k :: ss,(32:UInt8) ∉ bytes x) :
 Calls Tryz.prog 175 #[.string s, .string ⟨#[32]⟩] w fun e w'=>e=.returned (.slice (some ⟨w.heap.size,0,none⟩) (ss.length + 1) (ss.length + 1))∧w'=w.alloc (.cells ((k :: ss).map Value.string).toArray 9):=by
 have hj:=ZiK (c:=32) (s:=s) (ws:=ss) (k:=k) (by rw [hd,ZiM]) (hk k List.mem_cons_self) (fun x hx=>hk x (List.mem_cons_of_mem _ hx))
 have hc:=Lib.countB_le ⟨#[32]⟩ (by decide) s.size s (Nat.le_refl _)
 have c:=Any.strings_genSplit_core Tryz.lays221 (by kernel_rfl) s ⟨#[32]⟩ 0 (-1) (ss.length + 1) w hs (by decide) (Nat.zero_le _)
  (fun x c _=>(Tryz.strings_Index_one x 32 _).mono fun e w' h=>⟨by rw [h.1]; exact congrArg (fun z=>Ending.returned (.int .i64 z)) (Zgl 32 x.data.toList).symm,h.2⟩)
  ((Tryz.strings_Count_one s 32 w).mono fun e w' h=>⟨by rw [h.1]; exact congrArg (fun z:Nat=>Ending.returned (.int .i64 (z:Int))) (Lib.count_one 32 s.data.toList).symm,h.2⟩) (by decide) (by decide) (by rw [if_pos (by decide),hj.1]; rw [hj.1] at hc; omega)
 rw [Nat.add_sub_cancel,hj.2] at c
 have e2:Lib.cellsOf (k :: ss) (ss.length + 1)=((k :: ss).map Value.string).toArray:=Lib.cellsOf_full (k :: ss)
 rw [e2] at c
 have c':Calls Tryz.prog 277 #[.string s, .string ⟨#[32]⟩, .int .i64 0, .int .i64 (-1)] w fun e w'=>e=.returned (.slice (some ⟨w.heap.size,0,none⟩) (ss.length + 1) (ss.length + 1))∧w'=w.alloc (.cells ((k :: ss).map Value.string).toArray 9):=c
 clear c hj hc e2
 go_enter Tryz.func175,Tryz.ntmps175
 go_wp2_with fail
 refine c'.mono ?_
 rintro e w' ⟨rfl,hw⟩
 have HW:=zh hw
 clear hw
 go_wp2
 go_ret
 exact ⟨rfl,HW.out⟩
def RdAt (w:World) (b:Nat) (s:ByteArray) (p:Nat):Prop:=Blk 239 w b #[.string s, .int .i64 ((p:Nat):Int)]
structure LineAt (s:ByteArray) (p:Nat) (k:ByteArray) (ss:List ByteArray):Prop where
 rest:∃ r,s.data.toList.drop p=bytes k ++ ZaI ss ++ 10 :: r
 sp:∀ x ∈ k :: ss,(32:UInt8) ∉ bytes x
 nl:∀ x ∈ k :: ss,(10:UInt8) ∉ bytes x
theorem LineAt.facts {s k:ByteArray} {p n:Nat} {ss:List ByteArray} (h:LineAt s p k ss) (hn:(bytes k ++ ZaI ss).length=n) :
 p + n < s.size∧Lib.indexByte (s.extract p s.size).data.toList 10=(n:Int)∧(s.extract p (p + n)).data.toList=bytes k ++ ZaI ss:=by
 obtain ⟨⟨r,hr⟩,_,hnl⟩:=h
 have h10:(10:UInt8) ∉ bytes k ++ ZaI ss:=fun hm=>by
  rcases List.mem_append.1 hm with hm | hm
  ·exact hnl k List.mem_cons_self hm
  ·obtain ⟨x,hx,h2⟩:=List.mem_flatMap.1 hm
   rcases List.mem_cons.1 h2 with h2 | h2
   ·exact absurd h2 (by decide)
   ·exact hnl x (List.mem_cons_of_mem _ hx) h2
 refine ⟨?_,?_,?_⟩
 ·have:=congrArg List.length hr
  rw [List.length_drop,List.length_append,List.length_cons,hn] at this
  have hz:s.data.toList.length=s.size:=Zaf s
  omega
 ·rw [Lib.extract_to_end,hr,ZeV h10,hn]
 ·rw [Lib.extract_data,hr,Nat.add_sub_cancel_left,← hn,List.take_left']
  rfl
set_option maxHeartbeats 4000000 in
theorem Zkb (b:Nat) (s k:ByteArray) (ss:List ByteArray) (p:Nat) (w:World) (hB:RdAt w b s p) (hL:LineAt s p k ss) (hs:s.size≤1048576) :
 Calls Tryz.prog 282 #[.pointer (some ⟨b,0,none⟩)] w fun e w'=>∃ c,e=.returned (.slice (some ⟨c,0,none⟩) (ss.length + 1) (ss.length + 1))∧w.heap.size≤c∧Blk 9 w' c ((k :: ss).map Value.string).toArray∧RdAt w' b s (p + (ZaA k ss).length)∧Fr (fun i=>i=b) w w':=by
 obtain ⟨n,hn⟩:∃ n,(bytes k ++ ZaI ss).length=n:=⟨_,rfl⟩
 have hln:(ZaA k ss).length=n + 1:=by unfold ZaA; rw [List.length_append,hn]; rfl
 rw [hln]
 obtain ⟨h1,h2,h3⟩:=hL.facts hn
 have c0:w.cell? ⟨b,0,none⟩=some (.string s):=by rw [Blk.cell hB]; rfl
 have c1:w.cell? ⟨b,1,none⟩=some (.int .i64 ((p:Nat):Int)):=by rw [Blk.cell hB]; rfl
 have hp0:(0:Int)≤(p:Int):=by omega
 have hps:(p:Int)≤(s.size:Int):=by omega
 have hpn:(p:Int)≤(p:Int) + (n:Int):=by omega
 have hpn2:(p:Int) + (n:Int)≤(s.size:Int):=by omega
 have hn0:(0:Int)≤(n:Int):=by omega
 have hpn3:(0:Int)≤(p:Int) + (n:Int):=by omega
 have hwr:IntKind.i64.wrap ((p:Int) + (n:Int))=(p:Int) + (n:Int):=by rw [IntKind.wrap_i64]; omega
 have hwr1:IntKind.i64.wrap ((n:Int) + 1)=(n:Int) + 1:=by rw [IntKind.wrap_i64]; omega
 have hwr2:IntKind.i64.wrap ((p:Int) + ((n:Int) + 1))=(p:Int) + ((n:Int) + 1):=by rw [IntKind.wrap_i64]; omega
 have htn:((p:Int) + (n:Int)).toNat=p + n:=by omega
 have HI:=zh h2
 have H3:=zh h3
 have HB:=zh hB
 have H1:=zh h1
 have HS:=zh hs
 have Hsp:=zh hL.sp
 clear hB h2 h3 hL hn hln h1 hs
 go_enter Tryz.func282,Tryz.ntmps282
 go_wp2
 go_region_held3 (fun w'=>w'.cell? ⟨b,0,none⟩=some (.string s)∧w'.cell? ⟨b,1,none⟩=some (.int .i64 ((p:Nat):Int)))
  (first | exact ⟨c0,c1⟩)
  (first
   | (go_at_call 343
      refine (Tryz.strings_IndexByte _ _ _).mono ?_
      rintro e w1 ⟨he,rfl⟩
      rw [show Lib.indexByte (s.extract p s.size).data.toList (10:Int).toNat.toUInt8=(n:Int) from HI.out] at he
      subst he))
 generalize hwd:w.drew=wd
 have HD:Hid (Ext w wd):=hwd ▸ (Fr.refl _ w).drew
 have HB1:Hid (RdAt wd b s p):=zh (HB.out.ext HD.out)
 have c0:wd.cell? ⟨b,0,none⟩=some (.string s):=by rw [Blk.cell HB1.out]; rfl
 have c1:wd.cell? ⟨b,1,none⟩=some (.int .i64 ((p:Nat):Int)):=by rw [Blk.cell HB1.out]; rfl
 clear hwd
 go_wp2_with fail
 refine (ZaV _ _).mono ?_
 rintro e w1 ⟨rfl,rfl⟩
 go_wp2_with fail
 go_region_held3 (fun w'=>w'.cell? ⟨b,0,none⟩=some (.string s)∧w'.cell? ⟨b,1,none⟩=some (.int .i64 ((p:Nat):Int)))
  (first | exact ⟨c0,c1⟩)
  (fail)
 generalize hwd:w1.drew=wd2
 have HD2:Hid (Ext w wd2):=hwd ▸ (HD.out.drew)
 have HB2:Hid (RdAt wd2 b s p):=zh (HB.out.ext HD2.out)
 have c0:wd2.cell? ⟨b,0,none⟩=some (.string s):=by rw [Blk.cell HB2.out]; rfl
 have c1:wd2.cell? ⟨b,1,none⟩=some (.int .i64 ((p:Nat):Int)):=by rw [Blk.cell HB2.out]; rfl
 have hf1:=Blk.frozen HB2.out 1
 clear hwd
 go_wp2_with fail
 have hEp:((p:Nat):Int) + (((n:Nat):Int) + 1)=((p + (n + 1):Nat):Int):=by omega
 rw [hEp]
 have HB3:Hid (RdAt (wd2.setCell ⟨b,1,none⟩ (.int .i64 ((p + (n + 1):Nat):Int))) b s (p + (n + 1))):=zh (Blk.set_ HB2.out 1 (.int .i64 ((p + (n + 1):Nat):Int)))
 have HF3:Hid (Fr (fun i=>i=b) w (wd2.setCell ⟨b,1,none⟩ (.int .i64 ((p + (n + 1):Nat):Int)))):=zh (Fr.setCell (S:=fun i=>i=b) (p:=⟨b,1,none⟩) (HD2.out.mono (fun _ _ f=>f.elim)) (Or.inl rfl) _)
 clear hEp hwr hwr1 hwr2 htn
 generalize wd2.setCell ⟨b,1,none⟩ (.int .i64 ((p + (n + 1):Nat):Int))=w3 at *
 refine (Zk6 _ k ss w3 (by have:=HS.out; rw [ByteArray.size_extract]; omega) H3.out Hsp.out).mono ?_
 rintro e w4 ⟨rfl,hw4⟩
 have HE4:Hid (Ext w3 w4):=hw4 ▸ (Fr.refl _ w3).alloc _
 have HC4:Hid (Blk 9 w4 w3.heap.size ((k :: ss).map Value.string).toArray):=hw4 ▸ Blk.new _ _ _
 have hsz:=HF3.out.size
 clear hw4
 go_wp2
 go_ret
 exact ⟨_,rfl,hsz,HC4.out,HB3.out.ext HE4.out,HF3.out.ext HE4.out⟩
end Go.Proofs.YtcpjeaaapocoeaaGreatDoor

namespace Go.Proofs.YtcpjeaaapocoeaaGreatDoor
open Go.RowKit
end Go.Proofs.YtcpjeaaapocoeaaGreatDoor

namespace Go.Proofs.YtcpjeaaapocoeaaGreatDoor
open Go.RowKit
end Go.Proofs.YtcpjeaaapocoeaaGreatDoor
