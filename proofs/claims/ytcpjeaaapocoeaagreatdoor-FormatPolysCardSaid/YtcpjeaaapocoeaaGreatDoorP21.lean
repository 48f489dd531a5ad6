/-
 My texts Rw, Rw2, Rw3, Wp, Vl, Fm1, Ms0, Ms put together.
-/
import Derived.Test.YtcpjeaaapocoeaaGreatDoorP17
import Derived.Test.YtcpjeaaapocoeaaGreatDoorP20
import Derived.Shelf.Strings.SplitCore
import Derived.Deep.RegionWith
import Derived.ArgAppend
import Derived.Test.YtcpjeaaapocoeaaGreatDoorP16
set_option maxRecDepth 100000
namespace Go.Proofs.YtcpjeaaapocoeaaGreatDoor
open Go.RowKit
theorem Zme (ss:List ByteArray):ZaO ss=ZcQ 32 (ss.map (·.data.toList)):=by
 unfold ZaO ZcQ; rw [List.flatMap_map]
theorem ZpR (s k:ByteArray) (ss:List ByteArray) (w:World) (hs:s.size < 4294967281) (hd:s.data.toList=bytes k ++ ZaO ss) (hk:∀ x ∈ k :: ss,(32:UInt8) ∉ bytes x) :
 Calls Tryz.prog 175 #[.string s, .string ⟨#[32]⟩] w fun e w'=>e=.returned (.slice (some ⟨w.heap.size,0,none⟩) (ss.length + 1) (ss.length + 1))∧w'=w.alloc (.cells ((k :: ss).map Value.string).toArray 9):=by
 have hj:=Zmc (c:=32) (s:=s) (ws:=ss) (k:=k) (by rw [hd,Zme]) (hk k List.mem_cons_self) (fun x hx=>hk x (List.mem_cons_of_mem _ hx))
 have hc:=Lib.countB_le ⟨#[32]⟩ (by decide) s.size s (Nat.le_refl _)
 have c:=Any.strings_genSplit_core Tryz.lays221 (by kernel_rfl) s ⟨#[32]⟩ 0 (-1) (ss.length + 1) w hs (by decide) (Nat.zero_le _)
  (fun x c _=>(Tryz.strings_Index_one x 32 _).mono fun e w' h=>⟨by rw [h.1]; exact congrArg (fun z=>Ending.returned (.int .i64 z)) (ZiZ 32 x.data.toList).symm,h.2⟩)
  ((Tryz.strings_Count_one s 32 w).mono fun e w' h=>⟨by rw [h.1]; exact congrArg (fun z:Nat=>Ending.returned (.int .i64 (z:Int))) (Lib.count_one 32 s.data.toList).symm,h.2⟩) (by decide) (by decide) (by rw [if_pos (by decide),hj.1]; rw [hj.1] at hc; omega)
 rw [Nat.add_sub_cancel,hj.2] at c
 have e2:Lib.cellsOf (k :: ss) (ss.length + 1)=((k :: ss).map Value.string).toArray:=Lib.cellsOf_full (k :: ss)
 rw [e2] at c
 have c':Calls Tryz.prog 277 #[.string s, .string ⟨#[32]⟩, .int .i64 0, .int .i64 (-1)] w fun e w'=>e=.returned (.slice (some ⟨w.heap.size,0,none⟩) (ss.length + 1) (ss.length + 1))∧w'=w.alloc (.cells ((k :: ss).map Value.string).toArray 9):=c
 clear c hj hc e2
 go_enter Tryz.func175,Tryz.ntmps175
 go_wp2_with fail
 refine c'.mono ?_
 rintro e w' ⟨rfl,hw⟩
 have HW:=zh hw
 clear hw
 go_wp2
 go_ret
 exact ⟨rfl,HW.out⟩
def RdAt (w:World) (b:Nat) (s:ByteArray) (p:Nat):Prop:=Blk 239 w b #[.string s, .int .i64 ((p:Nat):Int)]
structure LineAt (s:ByteArray) (p:Nat) (k:ByteArray) (ss:List ByteArray):Prop where
 rest:∃ r,s.data.toList.drop p=bytes k ++ ZaO ss ++ 10 :: r
 sp:∀ x ∈ k :: ss,(32:UInt8) ∉ bytes x
 nl:∀ x ∈ k :: ss,(10:UInt8) ∉ bytes x
theorem LineAt.facts {s k:ByteArray} {p n:Nat} {ss:List ByteArray} (h:LineAt s p k ss) (hn:(bytes k ++ ZaO ss).length=n) :
 p + n < s.size∧Lib.indexByte (s.extract p s.size).data.toList 10=(n:Int)∧(s.extract p (p + n)).data.toList=bytes k ++ ZaO ss:=by
 obtain ⟨⟨r,hr⟩,_,hnl⟩:=h
 have h10:(10:UInt8) ∉ bytes k ++ ZaO ss:=fun hm=>by
  rcases List.mem_append.1 hm with hm | hm
  ·exact hnl k List.mem_cons_self hm
  ·obtain ⟨x,hx,h2⟩:=List.mem_flatMap.1 hm
   rcases List.mem_cons.1 h2 with h2 | h2
   ·exact absurd h2 (by decide)
   ·exact hnl x (List.mem_cons_of_mem _ hx) h2
 refine ⟨?_,?_,?_⟩
 ·have:=congrArg List.length hr
  rw [List.length_drop,List.length_append,List.length_cons,hn] at this
  have hz:s.data.toList.length=s.size:=Zag s
  omega
 ·rw [Lib.extract_to_end,hr,ZgP h10,hn]
 ·rw [Lib.extract_data,hr,Nat.add_sub_cancel_left,← hn,List.take_left']
  rfl
set_option maxHeartbeats 4000000 in
theorem ZoM (b:Nat) (s k:ByteArray) (ss:List ByteArray) (p:Nat) (w:World) (hB:RdAt w b s p) (hL:LineAt s p k ss) (hs:s.size≤1048576) :
 Calls Tryz.prog 282 #[.pointer (some ⟨b,0,none⟩)] w fun e w'=>∃ c,e=.returned (.slice (some ⟨c,0,none⟩) (ss.length + 1) (ss.length + 1))∧w.heap.size≤c∧Blk 9 w' c ((k :: ss).map Value.string).toArray∧RdAt w' b s (p + (Zax k ss).length)∧Fr (fun i=>i=b) w w':=by
 obtain ⟨n,hn⟩:∃ n,(bytes k ++ ZaO ss).length=n:=⟨_,rfl⟩
 have hln:(Zax k ss).length=n + 1:=by unfold Zax; rw [List.length_append,hn]; rfl
 rw [hln]
 obtain ⟨h1,h2,h3⟩:=hL.facts hn
 have c0:w.cell? ⟨b,0,none⟩=some (.string s):=by rw [Blk.cell hB]; rfl
 have c1:w.cell? ⟨b,1,none⟩=some (.int .i64 ((p:Nat):Int)):=by rw [Blk.cell hB]; rfl
 have hp0:(0:Int)≤(p:Int):=by omega
 have hps:(p:Int)≤(s.size:Int):=by omega
 have hpn:(p:Int)≤(p:Int) + (n:Int):=by omega
 have hpn2:(p:Int) + (n:Int)≤(s.size:Int):=by omega
 have hn0:(0:Int)≤(n:Int):=by omega
 have hpn3:(0:Int)≤(p:Int) + (n:Int):=by omega
 have hwr:IntKind.i64.wrap ((p:Int) + (n:Int))=(p:Int) + (n:Int):=by rw [IntKind.wrap_i64]; omega
 have hwr1:IntKind.i64.wrap ((n:Int) + 1)=(n:Int) + 1:=by rw [IntKind.wrap_i64]; omega
 have hwr2:IntKind.i64.wrap ((p:Int) + ((n:Int) + 1))=(p:Int) + ((n:Int) + 1):=by rw [IntKind.wrap_i64]; omega
 have htn:((p:Int) + (n:Int)).toNat=p + n:=by omega
 have HI:=zh h2
 have H3:=zh h3
 have HB:=zh hB
 have H1:=zh h1
 have HS:=zh hs
 have Hsp:=zh hL.sp
 clear hB h2 h3 hL hn hln h1 hs
 go_enter Tryz.func282,Tryz.ntmps282
 go_wp2
 go_region_held3 (fun w'=>w'.cell? ⟨b,0,none⟩=some (.string s)∧w'.cell? ⟨b,1,none⟩=some (.int .i64 ((p:Nat):Int)))
  (first | exact ⟨c0,c1⟩)
  (first
   | (go_at_call 343
      refine (Tryz.strings_IndexByte _ _ _).mono ?_
      rintro e w1 ⟨he,rfl⟩
      rw [show Lib.indexByte (s.extract p s.size).data.toList (10:Int).toNat.toUInt8=(n:Int) from HI.out] at he
      subst he))
 generalize hwd:w.drew=wd
 have HD:Hid (Ext w wd):=hwd ▸ (Fr.refl _ w).drew
 have HB1:Hid (RdAt wd b s p):=zh (HB.out.ext HD.out)
 have c0:wd.cell? ⟨b,0,none⟩=some (.string s):=by rw [Blk.cell HB1.out]; rfl
 have c1:wd.cell? ⟨b,1,none⟩=some (.int .i64 ((p:Nat):Int)):=by rw [Blk.cell HB1.out]; rfl
 clear hwd
 go_wp2_with fail
 refine (Zbt _ _).mono ?_
 rintro e w1 ⟨rfl,rfl⟩
 go_wp2_with fail
 go_region_held3 (fun w'=>w'.cell? ⟨b,0,none⟩=some (.string s)∧w'.cell? ⟨b,1,none⟩=some (.int .i64 ((p:Nat):Int)))
  (first | exact ⟨c0,c1⟩)
  (fail)
 generalize hwd:w1.drew=wd2
 have HD2:Hid (Ext w wd2):=hwd ▸ (HD.out.drew)
 have HB2:Hid (RdAt wd2 b s p):=zh (HB.out.ext HD2.out)
 have c0:wd2.cell? ⟨b,0,none⟩=some (.string s):=by rw [Blk.cell HB2.out]; rfl
 have c1:wd2.cell? ⟨b,1,none⟩=some (.int .i64 ((p:Nat):Int)):=by rw [Blk.cell HB2.out]; rfl
 have hf1:=Blk.frozen HB2.out 1
 clear hwd
 go_wp2_with fail
 have hEp:((p:Nat):Int) + (((n:Nat):Int) + 1)=((p + (n + 1):Nat):Int):=by omega
 rw [hEp]
 have HB3:Hid (RdAt (wd2.setCell ⟨b,1,none⟩ (.int .i64 ((p + (n + 1):Nat):Int))) b s (p + (n + 1))):=zh (Blk.set_ HB2.out 1 (.int .i64 ((p + (n + 1):Nat):Int)))
 have HF3:Hid (Fr (fun i=>i=b) w (wd2.setCell ⟨b,1,none⟩ (.int .i64 ((p + (n + 1):Nat):Int)))):=zh (Fr.setCell (S:=fun i=>i=b) (p:=⟨b,1,none⟩) (HD2.out.mono (fun _ _ f=>f.elim)) (Or.inl rfl) _)
 clear hEp hwr hwr1 hwr2 htn
 generalize wd2.setCell ⟨b,1,none⟩ (.int .i64 ((p + (n + 1):Nat):Int))=w3 at *
 refine (ZpR _ k ss w3 (by have:=HS.out; rw [ByteArray.size_extract]; omega) H3.out Hsp.out).mono ?_
 rintro e w4 ⟨rfl,hw4⟩
 have HE4:Hid (Ext w3 w4):=hw4 ▸ (Fr.refl _ w3).alloc _
 have HC4:Hid (Blk 9 w4 w3.heap.size ((k :: ss).map Value.string).toArray):=hw4 ▸ Blk.new _ _ _
 have hsz:=HF3.out.size
 clear hw4
 go_wp2
 go_ret
 exact ⟨_,rfl,hsz,HC4.out,HB3.out.ext HE4.out,HF3.out.ext HE4.out⟩
end Go.Proofs.YtcpjeaaapocoeaaGreatDoor

namespace Go.Proofs.YtcpjeaaapocoeaaGreatDoor
open Go.RowKit
theorem SRow.blk {w:World} {c off:Nat} {cells:Array Value} {ss:List ByteArray} (h:Blk 9 w c cells) (hc:∀ i,i < ss.length→cells[off + i]? = some (.string (ss[i]?.getD ⟨#[]⟩))):SRow w (some ⟨c,off,none⟩) ss:=fun _=>⟨c,off,cells,_,rfl,h,hc⟩
theorem Zlt {w w1:World} {b c q off:Nat} {s:ByteArray} {cells:Array Value} {ss:List ByteArray} (hc:w.heap.size≤c) (hC:Blk 9 w1 c cells) (hR:RdAt w1 b s q) (h:∀ i,i < ss.length→cells[off + i]? = some (.string (ss[i]?.getD ⟨#[]⟩))):BoxF b w w1 (fun w=>RdAt w b s q∧SRow w (some ⟨c,off,none⟩) ss) :=
 fun S w2 hS hF=>⟨Blk.fr hR hF (fun h=>(hS _ h).2 rfl),SRow.blk (hC.fr hF (fun h=>by have:=(hS _ h).1; omega)) h⟩
set_option maxHeartbeats 4000000 in
theorem ZpS (b:Nat) (s k:ByteArray) (ss:List ByteArray) (p:Nat) (w:World) (hB:RdAt w b s p) (hL:LineAt s p k ss) (hs:s.size≤1048576) :
 Calls Tryz.prog 193 #[.pointer (some ⟨b,0,none⟩), .string k] w fun e w'=>∃ A,e=.returned (.slice A ss.length ss.length)∧Fr (fun i=>i=b) w w'∧BoxF b w w' (fun w=>RdAt w b s (p + (Zax k ss).length)∧SRow w A ss):=by
 obtain ⟨q,hq⟩:∃ q,p + (Zax k ss).length=q:=⟨_,rfl⟩
 have hw:=ZoM b s k ss p w hB hL hs
 rw [hq] at hw ⊢
 obtain ⟨n,hn⟩:∃ n,ss.length=n:=⟨_,rfl⟩
 rw [hn] at hw ⊢
 have HN:=zh hn
 clear hB hL hs hq hn
 go_enter Tryz.func193,Tryz.ntmps193
 go_wp2_with fail
 refine hw.mono ?_
 rintro e w1 ⟨c,rfl,hc,hC,hR,hF⟩
 have c0:w1.cell? ⟨c,0,none⟩=some (.string k):=by rw [hC.cell]; rfl
 have Hc:=zh hc
 have HC:=zh hC
 have HR:=zh hR
 have HF:=zh hF
 have hn0:(0:Int)≤(n:Int):=by omega
 clear hw hc hC hR hF
 go_wp2_with fail
 refine (Zbt _ _).mono ?_
 rintro e w2 ⟨rfl,rfl⟩
 go_wp2
 ·go_ret
  exact ⟨_,rfl,HF.out,Zlt Hc.out HC.out HR.out (fun i hi=>by have:=HN.out; omega)⟩
 ·go_ret
  exact ⟨_,rfl,HF.out,Zlt Hc.out HC.out HR.out (fun i hi=>by rw [Nat.add_comm]; simp [hi])⟩
set_option maxHeartbeats 4000000 in
theorem ZoN (b:Nat) (s k:ByteArray) (ss:List ByteArray) (p:Nat) (m:Int) (w:World) (hB:RdAt w b s p) (hL:LineAt s p k ss) (hs:s.size≤1048576) (hm:((ss.length:Nat):Int)=m) :
 Calls Tryz.prog 141 #[.pointer (some ⟨b,0,none⟩), .string k, .int .i64 m] w fun e w'=>∃ A,e=.returned (.slice A ss.length ss.length)∧Fr (fun i=>i=b) w w'∧BoxF b w w' (fun w=>RdAt w b s (p + (Zax k ss).length)∧SRow w A ss):=by
 subst hm
 have hw:=ZpS b s k ss p w hB hL hs
 generalize p + (Zax k ss).length=q at hw ⊢
 obtain ⟨n,hn⟩:∃ n,ss.length=n:=⟨_,rfl⟩
 rw [hn] at hw ⊢
 clear hB hL hs hn
 go_enter Tryz.func141,Tryz.ntmps141
 go_wp2_with fail
 refine hw.mono ?_
 rintro e w1 ⟨A,rfl,hF,hX⟩
 have HF:=zh hF
 have HX:=zh hX
 clear hw hF hX
 go_wp2_with fail
 refine (Zbt _ _).mono ?_
 rintro e w2 ⟨rfl,rfl⟩
 go_wp2
 go_ret
 exact ⟨_,rfl,HF.out,HX.out⟩
set_option maxHeartbeats 4000000 in
theorem Zmf (p:Value) (z:Int) (h0:0≤z) (h1:z≤1000000000) (w:World) :
 Calls Tryz.prog 148 #[p, .string (Zaf z)] w fun e w'=>e=.returned (.int .i64 z)∧Ext w w':=by
 have hsz:(Zaf z).size≤18:=by
  show (Lib.itoa z).toArray.size≤18
  rw [List.size_toArray,ZdW h0]
  exact ZgQ 17 z.toNat (by omega)
 have hat:Lib.atoi (Zaf z).data.toList=some z:=ZoL h0
 have hc:=Tryz.strconv_Atoi (Zaf z) z hsz hat w
 have key:(Zaf z=⟨#[48]⟩)∨(∃ d r,Zaf z=⟨(UInt8.ofNat (48 + d) :: r).toArray⟩∧0 < d∧d < 10):=by
  by_cases hz:z=0
  ·left; subst hz; unfold Zaf; rw [show (0:Int)=((0:Nat):Int) from rfl,Lib.itoa_nonneg,Lib.decDigits_one (by decide)]; rfl
  ·right
   obtain ⟨d,r,e,hd,hp⟩:=ZhE z.toNat
   refine ⟨d,r,?_,hp (by omega),hd⟩
   unfold Zaf
   rw [ZdW h0,e]
 have HC:=zh hc
 clear hc hat hsz
 rcases key with hk | ⟨d,r,hk,hd0,hd⟩
 ·rw [hk] at HC ⊢
  clear hk
  go_enter Tryz.func148,Tryz.ntmps148
  go_wp2_with fail
  refine (Zbt _ _).mono ?_
  rintro e w1 ⟨rfl,rfl⟩
  go_wp2_with fail
  refine HC.out.mono ?_
  rintro e w2 ⟨rfl,t,ht⟩
  have HE:Hid (Ext w1 w2):=by subst ht; exact zh (Fr.ofBelow (Lib.bytesWorld_below _ _ _))
  clear ht
  go_wp2_with fail
  refine (Zbt _ _).mono ?_
  rintro e w3 ⟨rfl,rfl⟩
  go_wp2
  go_ret
  exact ⟨rfl,HE.out⟩
 ·obtain ⟨x,hx⟩:∃ x,UInt8.ofNat (48 + d)=x:=⟨_,rfl⟩
  have hxn:x.toNat=48 + d:=by rw [← hx,UInt8.toNat_ofNat']; omega
  rw [hx] at hk
  have hx48:(x == 48)=false:=beq_eq_false_iff_ne.2 (fun e=>by rw [e] at hxn; have:(48:UInt8).toNat=48:=rfl; omega)
  have hge:(49:Int)≤(x.toNat:Int):=by omega
  have hle:(x.toNat:Int)≤57:=by omega
  rw [hk] at HC ⊢
  clear hk hx hxn
  go_enter Tryz.func148,Tryz.ntmps148
  go_wp2_with fail
  have hdec:∀ (pr:0 < (⟨(x :: r).toArray⟩:ByteArray).size),decide (((((⟨(x :: r).toArray⟩:ByteArray)[0]'pr).toNat:Nat):Int)≤57)=true:=fun _=>decide_eq_true hle
  rw [hdec]
  refine (Zbt _ _).mono ?_
  rintro e w1 ⟨rfl,rfl⟩
  go_wp2_with fail
  refine HC.out.mono ?_
  rintro e w2 ⟨rfl,t,ht⟩
  have HE:Hid (Ext w1 w2):=by subst ht; exact zh (Fr.ofBelow (Lib.bytesWorld_below _ _ _))
  clear ht
  go_wp2_with fail
  refine (Zbt _ _).mono ?_
  rintro e w3 ⟨rfl,rfl⟩
  go_wp2
  go_ret
  exact ⟨rfl,HE.out⟩
end Go.Proofs.YtcpjeaaapocoeaaGreatDoor

namespace Go.Proofs.YtcpjeaaapocoeaaGreatDoor
open Go.RowKit
def Zcd (zs:List Int):Array Value:=(zs.map (Value.int .i64)).toArray
def ZbE (zs:List Int) (n:Nat):Array Value:=(zs.map (Value.int .i64) ++ List.replicate (n - zs.length) (Value.int .i64 0)).toArray
theorem Zjx {zs:List Int} {n:Nat} (h:zs.length < n):(ZbE zs n)[zs.length]? = some (.int .i64 0):=by
 unfold ZbE
 simp only [List.getElem?_toArray]
 rw [List.getElem?_append_right (by simp),List.length_map,Nat.sub_self,List.getElem?_replicate,if_pos (by omega)]
theorem Zkr {zs:List Int} {n:Nat} (h:zs.length < n) (z:Int):(ZbE zs n).setIfInBounds zs.length (.int .i64 z)=ZbE (zs ++ [z]) n:=by
 unfold ZbE
 rw [List.setIfInBounds_toArray,List.set_append_right _ _ (by simp),List.length_map,Nat.sub_self]
 rw [show n - zs.length=(n - (zs.length + 1)) + 1 by omega,List.replicate_succ,List.set_cons_zero,List.map_append,List.length_append]
 simp
theorem Zjy (zs:List Int):ZbE zs zs.length=Zcd zs:=by
 unfold ZbE Zcd; simp
theorem IRow.cells {w:World} {b:Nat} {zs:List Int} (h:Blk 3 w b (Zcd zs)):IRow w (some ⟨b,0,none⟩) zs:=fun i hi=>by
 refine ⟨b,0,rfl,h.lt,?_⟩
 rw [Nat.zero_add,h.cell]
 unfold Zcd nth
 simp [List.getElem?_eq_getElem hi]
set_option maxHeartbeats 4000000 in
theorem ZgR (p:Value) (A:Option Addr) (c:Nat) (zs:List Int) (w:World) (hS:SRow w A (zs.map Zaf)) (hz:∀ i,i < zs.length→0≤nth zs i∧nth zs i≤1000000000) (hl:zs.length≤1000000) :
 Calls Tryz.prog 140 #[p, .slice A zs.length c] w fun e w'=>∃ b,e=.returned (.slice (some ⟨b,0,none⟩) zs.length zs.length)∧w.heap.size≤b∧Blk 3 w' b (Zcd zs)∧Ext w w':=by
 obtain ⟨n,hn⟩:∃ n,zs.length=n:=⟨_,rfl⟩
 rw [hn]
 have HS:=zh hS
 have HZ:=zh hz
 have HN:=zh hn
 have hmk:=run_make_row' (P:=Tryz.prog) 22 3 (.int .i64 0) 8 Tryz.underlying22 (by kernel_rfl) rfl .i64 .i64 n (by omega) (by omega)
 clear hS hz
 go_enter Tryz.func140,Tryz.ntmps140
 go_wp2
 generalize hwb:World.alloc w _=wb
 obtain ⟨b,hb⟩:∃ b,w.heap.size=b:=⟨_,rfl⟩
 rw [hb]
 have HB:Hid (Blk 3 wb b (ZbE [] n)):=by
  unfold Hid
  rw [← hwb,← hb]
  have e:ZbE [] n=madeCells #[.int .i64 0] n:=by
   rw [Zfj]; unfold ZbE cellsOf; simp
  rw [e]
  exact Blk.new _ _ _
 have HE:Hid (Ext w wb):=hwb ▸ (Fr.refl _ _).alloc _
 have Hb:=zh hb
 clear hmk hwb
 go_loopw [13] (fun v wr=>∃ j:Nat,j≤n∧v=.int .i64 (j:Int)∧Hid (Blk 3 wr b (ZbE (zs.take j) n))∧Hid (Ext w wr)) (fun v _=>n - (intOf v).toNat)
 case atStart=>exact ⟨0,by omega,rfl,HB,HE⟩
 case round =>
  obtain ⟨j,hj,rfl,hB,Q⟩:=hrel
  by_cases hlt:j < n
  ·obtain ⟨bA,off,rfl,hc⟩:=(show SRow wr A (zs.map Zaf) from fun h0=>by
    obtain ⟨b2,off,cs,f,e,hcs,h⟩:=HS.out h0
    exact ⟨b2,off,cs,f,e,(Q.out.block b2 (by
     rcases Nat.lt_or_ge b2 w.heap.size with h | h
     ·exact h
     ·rw [Array.getElem?_eq_none h] at hcs; cases hcs) (fun f=>f)).trans hcs,h⟩).at_ (i:=j) (by rw [List.length_map,HN.out]; exact hlt)
   have hzr:=HZ.out j (by rw [HN.out]; exact hlt)
   have hj0:(0:Int)≤(j:Int):=by omega
   have hjn:(j:Int) < (n:Int):=by omega
   have hstep:Hid (zs.take (j + 1)=zs.take j ++ [nth zs j]):=by
    unfold Hid nth
    rw [List.take_succ_eq_append_getElem (by rw [HN.out]; exact hlt),List.getElem?_eq_getElem (by rw [HN.out]; exact hlt)]
    rfl
   have hjl:Hid ((zs.take j).length=j):=by
    unfold Hid; rw [List.length_take,HN.out]; omega
   have hval:(zs.map Zaf)[j]?.getD ⟨#[]⟩=Zaf (nth zs j):=by
    unfold nth
    rw [List.getElem?_map,List.getElem?_eq_getElem (by rw [HN.out]; exact hlt)]; rfl
   rw [hval] at hc
   obtain ⟨z,hz⟩:∃ z,nth zs j=z:=⟨_,rfl⟩
   rw [hz] at hc hzr hstep
   clear hz hval
   obtain ⟨s,hs⟩:∃ s,Zaf z=s:=⟨_,rfl⟩
   rw [hs] at hc
   have HSs:=zh hs
   clear hs
   go_wp2_with fail
   rw [← HSs.out]
   refine (Zmf _ z hzr.1 hzr.2 _).mono ?_
   rintro e w2 ⟨rfl,hE1⟩
   have hB2:=hB.out.ext hE1
   have hcell:w2.cell? ⟨b,j,none⟩=some (.int .i64 0):=by
    rw [hB2.cell]
    have:=Zjx (zs:=zs.take j) (n:=n) (by rw [hjl.out]; exact hlt)
    rwa [hjl.out] at this
   have hfrz:=hB2.frozen j
   have HBs:Hid (Blk 3 (w2.setCell ⟨b,j,none⟩ (.int .i64 z)) b (ZbE (zs.take (j + 1)) n)):=by
    have h:=hB2.set_ j (.int .i64 z)
    have h2:=Zkr (zs:=zs.take j) (n:=n) (by rw [hjl.out]; exact hlt) z
    rw [hjl.out] at h2
    rw [h2,← hstep.out] at h
    exact h
   have HEs:Hid (Ext w (w2.setCell ⟨b,j,none⟩ (.int .i64 z))):=(Q.out.trans hE1).setCell (p:=⟨b,j,none⟩) (Or.inr (by rw [Hb.out]; exact Nat.le_refl _)) _
   clear hE1 hB2 hB Q hc
   go_wp2
   go_roundw
   case rel=>exact ⟨j + 1,by omega,by go_num,HBs.out,HEs.out⟩
   case measure=>simp [intOf]; omega
  ·obtain rfl:j=n:=by omega
   have HBn:Hid (Blk 3 wr b (Zcd zs)):=by
    have h:=hB.out
    rw [List.take_of_length_le (by rw [HN.out]; exact Nat.le_refl _)] at h
    rw [← Zjy,HN.out]
    exact h
   have hbl:w.heap.size≤b:=by rw [Hb.out]; exact Nat.le_refl _
   go_wp2
   go_ret
   exact ⟨b,rfl,hbl,HBn.out,Q.out⟩
end Go.Proofs.YtcpjeaaapocoeaaGreatDoor

namespace Go.Proofs.YtcpjeaaapocoeaaGreatDoor
open Go.RowKit
def ZaW:ByteArray:=⟨#[112,111,108,121]⟩
def Zci:ByteArray:=⟨#[116,101,114,109]⟩
def ZaR (t:TermR):List UInt8:=Zax Zci (t.coef :: t.exps.map Zaf)
def ZaI (v:Int) (ts:List TermR):List UInt8:=Zax ZaW [Zaf v,Zaf (ts.length:Int)] ++ ts.flatMap ZaR
theorem IRow.two {w:World} {b:Nat} {x y:Int} (h:Blk 3 w b #[.int .i64 x, .int .i64 y]):IRow w (some ⟨b,0,none⟩) [x,y]:=fun i hi=>by
 refine ⟨b,0,rfl,h.lt,?_⟩
 rw [Nat.zero_add,h.cell]
 match i,hi with
 | 0,_=>rfl
 | 1,_=>rfl
theorem TRow.exps' {w:World} {A:Option Addr} {ts:List TermR} (h:TRow w A ts) {i:Nat} (hi:i < ts.length):IRow w ts[i]!.A ts[i]!.exps:=by
 obtain ⟨_,_,_,_,_,_,h⟩:=h i hi; exact h
section
variable {N:Nat} {S0:Nat→Prop} {w:World} {Φ:World→Prop} {P:Program}
theorem Ze7 (S0:Nat→Prop) {fn:Func} {f:FuncId} {c:Code} {args:List Value} {R:Ending→World→Prop} (hf:P.funcs[f]? = some fn) (hb:fn.body=some c) (hl:Nat.ble args.length fn.ntmps=true) (Q:Box (fun _=>False) w Φ)
 (h:SXc P fn.ntmps S0 w (bodyPost P fn R) c (ofL (Zg4 0 args) []) Φ):Calls P f args.toArray w R:=by
 refine calls_of_wp hf hb (h (fun _=>0) _ w ⟨?_,rfl,fun i x hx=>?_,⟨fun b t cs e=>(by cases e),fun b c e=>(by cases e),fun b e=>(by cases e),Fr.refl _ _,fun i b off e=>?_,fun b t cs e=>(by cases e)⟩,?_⟩)
 ·have:=Nat.le_of_ble_eq_true hl
  simp; omega
 ·obtain ⟨_,v,hv,rfl⟩:=ZeD args 0 i x hx
  have hlt:i < args.length:=by
   rcases Nat.lt_or_ge i args.length with h' | h'
   ·exact h'
   ·rw [List.getElem?_eq_none (by omega)] at hv; cases hv
  simp only [AV.conc]
  rw [Array.getElem?_append_left (by simpa using hlt)]
  simpa using hv
 ·obtain ⟨_,v,hv,e'⟩:=ZeD args 0 i _ e
  cases e'
 ·intro w' hf'
  exact Q w' (hf'.mono (fun i _ h'=>by obtain ⟨b,e,_⟩:=h'; cases e))
end
instance ne_ge (n:Nat):Nonempty {b:Nat // n≤b}:=⟨⟨n,Nat.le_refl n⟩⟩
theorem ZoO {v:Int} {n:Nat} (hv:Zdc v) (hn:n≤4096):∀ i,i < [v,((n:Nat):Int)].length→Zdc (nth [v,((n:Nat):Int)] i):=fun i hi=>by
 match i,hi with
 | 0,_=>exact hv
 | 1,_=>exact ⟨by show (-9223372036854775808:Int)≤(n:Int); omega,by show (n:Int)≤9223372036854775807; omega⟩
theorem ZdI {ts:List TermR} {j:Nat} {t:TermR} (hlt:j < ts.length) (ht:ts[j]! = t):(ts.take (j + 1)).flatMap ZaR=(ts.take j).flatMap ZaR ++ ZaR t:=by
 rw [List.take_succ_eq_append_getElem hlt,List.flatMap_append,← ht,getElem!_pos ts j hlt]
 simp
theorem Zf7 (ts:List TermR) (j:Nat):((ts.take j).flatMap ZaR).length≤(ts.flatMap ZaR).length:=by
 conv=>rhs; rw [← List.take_append_drop j ts,List.flatMap_append,List.length_append]
 omega
def AppG (lo b n m k:Nat) (cur news:List Value) (q:Nat × Nat × List Value):Prop:=lo≤q.1∧q.2.2.length=q.2.1 * k∧n + m≤q.2.1∧q.2.1≤maxLen∧q.2.2.take ((n + m) * k)=cur ++ news∧(m=0→q=(b,n,cur))
theorem AppG.some {lo b n m k:Nat} {cur news:List Value} (hl:news.length=m * k) (hcur:cur.length=n * k) (hb:lo≤b) (h63:n + m≤maxLen):Nonempty {q:Nat × Nat × List Value // AppG lo b n m k cur news q}:=by
 have e:(cur ++ news).length=(n + m) * k:=by rw [List.length_append,hcur,hl,Nat.add_mul]
 refine ⟨⟨(b,n + m,cur ++ news),hb,e,Nat.le_refl _,h63,?_,fun h=>?_⟩⟩
 ·rw [← e,List.take_length]
 ·subst h
  obtain rfl:news=[]:=List.eq_nil_of_length_eq_zero (by simpa using hl)
  simp
theorem Ze8 {P:Program} {o:Oper} {ρ:Operand→Value} {w:World} {lo k n m bytes:Nat} {t e:TypeId} {s0 x:Operand} {cur news:List Value} {z:Value} (b b2 c2:Nat) (hO:Blk e w b cur.toArray) (hX:Blk e w b2 news.toArray) (hl:news.length=m * k) (hk:0 < k) (hz:z.cells.size=k)
 (hcur:cur.length=n * k) (hb:lo≤b) (hlo:lo≤w.heap.size) (h1:∀ u ∈ news,u.oneCell'=true) (h63:n + m≤maxLen) (hbytes:(n + m) * bytes≤140737488355328)
 (ho:o.op=.call { callee:=.builtin .append,args:=#[s0,x],argTypes:=#[t,t] }:=by kernel_rfl) (ht:P.underlying t=some (.slice e):=by kernel_rfl) (hinfo:(P.info? e).map (fun i=>(i.zero,i.size,i.bytes))=some (some z,k,bytes):=by kernel_rfl) (hs:ρ s0=.slice (some ⟨b,0,none⟩) n n:=by kernel_rfl) (hx:ρ x=.slice (some ⟨b2,0,none⟩) m c2:=by kernel_rfl) :
 Does P o ρ w (DoR (fun q:{q:Nat × Nat × List Value // AppG lo b n m k cur news q}=>.slice (some ⟨q.1.1,0,none⟩) (n + m) q.1.2.1) (fun q w=>m=0∨Blk e w q.1.1 q.1.2.2.toArray) w):=by
 obtain ⟨inf,hinf,h2⟩:=Option.map_eq_some_iff.1 hinfo
 injection h2 with hz0 h2
 injection h2 with hsize hby
 rcases Nat.eq_zero_or_pos m with hm | hm
 ·obtain rfl:news=[]:=List.eq_nil_of_length_eq_zero (by rw [hl,hm,Nat.zero_mul])
  have hrun:=run_append_room_cells (P:=P) w t o.type e inf ht hinf b 0 n n ⟨b2,0,none⟩ m c2 [] (by rw [hm]; simp) (fun j u hj=>by simp at hj) (fun u hu=>by cases hu) (by omega) (fun j hj=>by cases hj) (fun j hj=>by cases hj)
  have e:w.setCells b (0 + n * inf.size) []=w:=rfl
  rw [e] at hrun
  refine Or.inl ⟨_,w,by simp [execOp,ho,resolve,invoke,builtin,hs,hx,hrun,Result.andThen]; rfl,⟨(b,n,cur),hb,hcur,(show n + m≤n by omega),(show n≤maxLen by omega),?_,fun _=>rfl⟩,by rfl,Fr.refl _ w,fun S hS w'' hF=>Or.inl hm⟩
  rw [hm,Nat.add_zero,← hcur,List.take_length,List.append_nil]
 ·obtain ⟨v',w',hrun,⟨hlen,hr⟩,hg⟩:=run_append_arg_grows (P:=P) w t o.type e inf z k bytes ht hinf hz0 hsize hby hz hk ⟨b,0,none⟩ n n cur hcur (fun j u hj=>by rw [Lib.add_plain,Nat.zero_add,hO.cell]; simpa using hj) ⟨b2,0,none⟩ m c2 news hl (fun j u hj=>by rw [Lib.add_plain,Nat.zero_add,hX.cell]; simpa using hj) (by omega) h63 hbytes
  rcases hr with ⟨rfl,h0⟩ | ⟨b',cap',cur',rfl,hb',hh,hn',hc',hs',ht'⟩
  ·omega
  have hB':Blk e w' b' cur'.toList.toArray:=by rw [Array.toArray_toList]; exact hh
  refine Or.inl ⟨_,w',by simp [execOp,ho,resolve,invoke,builtin,hs,hx,hrun,Result.andThen]; rfl,⟨(b',cap',cur'.toList),by omega,by simpa using hs',hn',hc',by simpa using ht',fun h=>by omega⟩,by rfl,(Fr.ofGrown hg).mono (fun i _ h=>by cases h),fun S hS w'' hF=>Or.inr (hB'.fr hF (fun h=>by have:=(hS _ h).1; omega))⟩
theorem ZmS {b n m:Nat} {cur:List Value} {q:Nat × Nat × List Value} {e:TypeId} {w:World} (hG:m=0→q=(b,n,cur)) (h:m=0∨Blk e w q.1 q.2.2.toArray) (hO:Blk e w b cur.toArray):Blk e w q.1 q.2.2.toArray:=by
 rcases h with h | h
 ·rw [hG h]; exact hO
 ·exact h
theorem Zlu {lo g b' cap':Nat} {l:List UInt8} {v:Int} {ts:List TermR} {j:Nat} {t:TermR} {w:World} {cur':List Value} (hW:WrIs lo g (l ++ Zax ZaW [Zaf v,Zaf ((ts.length:Nat):Int)] ++ (ts.take j).flatMap ZaR) w) (hB:Blk 9 w b' cur'.toArray)
 (htk:cur'.take ((1 + t.exps.length) * 1)=[Value.string t.coef].take (1 * 1) ++ (t.exps.map Zaf).map Value.string) (hlt:j < ts.length) (ht:ts[j]! = t) (hx:t.exps.length≤6) (hl:(l ++ ZaI v ts).length≤1048576) :
 Calls Tryz.prog 109 #[.pointer (some ⟨g,0,none⟩), .string Zci, .slice (some ⟨b',0,none⟩) (1 + t.exps.length) cap'] w fun e w'=>e=.returned (.tuple #[])∧WrIs lo g (l ++ Zax ZaW [Zaf v,Zaf ((ts.length:Nat):Int)] ++ (ts.take j).flatMap ZaR ++ ZaR t) w'∧WrFr lo g w w':=by
 have hlen:(t.coef :: t.exps.map Zaf).length=1 + t.exps.length:=by simp; omega
 have hS:SRow w (some ⟨b',0,none⟩) (t.coef :: t.exps.map Zaf):=SRow.ofStr hB (by rw [hlen]; simpa using htk)
 have h1:=Zf7 ts (j + 1)
 rw [ZdI hlt ht,List.length_append] at h1
 have h2:=hl
 unfold ZaI at h2
 rw [List.length_append,List.length_append] at h2
 rw [← hlen]
 exact Zk3 lo g _ Zci _ cap' _ w hW hS (by rw [List.length_append,List.length_append]; omega) (show (ZaR t).length≤70368744177664 by omega) (by omega)
theorem ZoP (wl:World) (lo g:Nat) (l:List UInt8) (A:Option Addr) (c:Nat) (ts:List TermR) (v:Int) (w:World) (hlo:wl.heap.size=lo) (hgl:lo≤g) (hg:Glob wl) (hT:TRow wl A ts) (h0:Ext wl w) (hW:WrIs lo g l w) (hv:Zdc v) (hx:∀ i,i < ts.length→ts[i]!.exps.length≤6∧∀ j,j < ts[i]!.exps.length→Zdc (nth ts[i]!.exps j)) (hn:ts.length≤4096) (hl:(l ++ ZaI v ts).length≤1048576) :
 Calls Tryz.prog 64 #[.pointer (some ⟨g,0,none⟩), .agg #[.int .i64 v, .slice A ts.length c]] w (fun e w'=>e=.returned (.tuple #[])∧WrIs lo g (l ++ ZaI v ts) w'∧Fr (SWr lo g w) w w'):=by
 have hl1:l.length≤1048576:=by rw [List.length_append] at hl; omega
 have hl2:(Zax ZaW [Zaf v,Zaf ((ts.length:Nat):Int)]).length≤1048576:=by unfold ZaI at hl; rw [List.length_append,List.length_append] at hl; omega
 refine Ze7 (SWr lo g w) (Φ:=fun w=>WrIs lo g (l) w) Tryz.func64 rfl (by kernel_rfl) (fun w' hf=>WrIs.fr hW hf (fun f=>f) (fun _ _ f=>f)) ?_
 refine Zac (Zab (xq 1 [(3, .p 3 0)] [(3,43,[.v (.int .i64 v), .v (.slice A ts.length c)])] ?_))
 refine xe (Zaa (Zac (Zab (xq 6 [(6, .v (.pointer (some ⟨g,0,none⟩))),(8, .v (.int .i64 v)),(11, .v (.int .i64 ((ts.length:Nat):Int)))] [] ?_))))
 refine ZcU (d:=12) (fun zb:Nat=>.slice (some ⟨zb,0,none⟩) 2 2) (fun zb zw=>Blk 3 zw zb #[.int .i64 v, .int .i64 ((ts.length:Nat):Int)]) (by kernel_rfl) (by kernel_rfl) (by kernel_rfl) (by kernel_rfl) (by kernel_rfl) (by kernel_rfl) (fun w R Q=>Zbs (t:=22) (e:=3) (n:=2) (sz:=1) (z:=.int .i64 0) (parts:=#[(0,Operand.tmp 8),(1,Operand.tmp 11)]) (by kernel_rfl) (by kernel_rfl) (by kernel_rfl) (by kernel_rfl) (by kernel_rfl) (by kernel_rfl)) (fun b10=>?_)
 refine xr 0 [(0, .v (.pointer (some ⟨g,0,none⟩))),(3, .p 3 0),(6, .v (.pointer (some ⟨g,0,none⟩))),eS1 12 (some ⟨b10,0,none⟩) 2 2] [(3,43,[.v (.int .i64 v), .v (.slice A ts.length c)])] ?_
 refine xqc 110 [.slice (some ⟨b10,0,none⟩) 2 2] 13 (fun b:Nat=>.slice (some ⟨b,0,none⟩) 2 2) _ (fun w R Q=>(ZhW (some ⟨b10,0,none⟩) 2 [v,((ts.length:Nat):Int)] _ (hg.ext (ZbM h0 hlo hgl R)) (IRow.two Q.2) (ZoO hv hn) (by simp)).mono (fun _ _=>ZgB)) (fun b11=>?_)
 refine ZhY (d:=14) (lo:=lo) (g:=g) (l:=l) (l':=l ++ Zax ZaW [Zaf v,Zaf ((ts.length:Nat):Int)]) (v:=.tuple #[]) 109 [.pointer (some ⟨g,0,none⟩), .string ZaW, .slice (some ⟨b11,0,none⟩) 2 2] (fun _ _ h k=>WrFr.s0 h k) (by kernel_rfl) (fun w R Q=>Zk3 lo g l ZaW (some ⟨b11,0,none⟩) 2 [Zaf v,Zaf ((ts.length:Nat):Int)] _ Q.1.1 (SRow.ofStr Q.2 rfl) hl1 (by omega) (by simp)) (fun w Q=>Q.1.1) ?_
 refine xr 0 [(0, .v (.pointer (some ⟨g,0,none⟩))),(3, .p 3 0)] [(3,43,[.v (.int .i64 v), .v (.slice A ts.length c)])] ?_
 refine xe (Zaa (Zac (Zab (xq 4 [eS1 16 A ts.length c,(17, .v (.int .i64 ((ts.length:Nat):Int))),(18, .v (.int .i64 0))] [] ?_))))
 refine xe (Zaa (ZaP ?_))
 refine SXc.weak [(0, .v (.pointer (some ⟨g,0,none⟩))),(16, .v (.slice A ts.length c)),(17, .v (.int .i64 ((ts.length:Nat):Int))),(18, .v (.int .i64 ((0:Nat):Int)))] [] (Ψ:=fun w=>WrIs lo g (l ++ Zax ZaW [Zaf v,Zaf ((ts.length:Nat):Int)] ++ (ts.take 0).flatMap ZaR) w) (ZaM.of (by kernel_rfl)) (by kernel_rfl) (fun w Q=>(by rw [List.take_zero,List.flatMap_nil,List.append_nil]; exact Q)) ?_
 refine ZbU (fun nn ss ff=>∃ (j:Nat),ss=ofL [(0, .v (.pointer (some ⟨g,0,none⟩))),(16, .v (.slice A ts.length c)),(17, .v (.int .i64 ((ts.length:Nat):Int))),(18, .v (.int .i64 ((j:Nat):Int)))] []∧ff=(fun w=>WrIs lo g (l ++ Zax ZaW [Zaf v,Zaf ((ts.length:Nat):Int)] ++ (ts.take j).flatMap ZaR) w)∧(j≤ts.length)∧nn=(1 + (ts.length - j))) ((1 + (ts.length - 0))) ⟨0,rfl,rfl,(Nat.zero_le _),rfl⟩ ?_
 rintro nn ss ff ⟨j,rfl,rfl,hj,rfl⟩
 refine Zac (Zab (xq 1 [(19, .v (.bool (decide (((j:Nat):Int) < ((ts.length:Nat):Int)))))] [] ?_))
 refine xe (Zaa (Zac ?_))
 refine Zbc ((decide (((j:Nat):Int) < ((ts.length:Nat):Int)))) (by kernel_rfl) (fun hb12=>?_) (fun hb12=>?_)
 ·have hlt:j < ts.length:=by have:=of_decide_eq_true hb12; omega
  refine Zav (Zaa (Zac (ZaP (Zac (Zab ?_)))))
  refine xqk 20 (atA A (j * 2)) (fun w R Q=>ZaN (t:=41) (e:=53) (sz:=2) (x:=.tmp 16) (ix:=.tmp 18) (len:=ts.length) (cap:=c) (i:=j) ((hT.ext (ZbM h0 hlo hgl R)).ne hlt) hlt) ?_
  obtain ⟨t,ht⟩:∃ x,ts[j]! = x:=⟨_,rfl⟩
  have hxt:=hx j hlt
  rw [ht] at hxt
  refine xqk 21 (.agg #[.string t.coef, .slice t.A t.exps.length t.cap]) (fun w R Q=>by rw [← ht]; exact Zhf (t:=53) (x:=.tmp 20) (ts:=ts) (j:=j) (hT.ext (ZbM h0 hlo hgl R)) hlt) ?_
  refine xq 2 [(5, .p 5 0)] [(5,53,[.v (.string t.coef), .v (.slice t.A t.exps.length t.cap)])] ?_
  refine xe (Zaa ?_)
  refine Zon 8 3 6 [0,1,2,4,5] [7] [(0, .v (.pointer (some ⟨g,0,none⟩))),eS1 16 A ts.length c,(17, .v (.int .i64 ((ts.length:Nat):Int))),(18, .v (.int .i64 ((j:Nat):Int))),(22, .v (.pointer (some ⟨g,0,none⟩))),(24, .v (.string t.coef)),eS1 27 t.A t.exps.length t.cap] [(5,53,[.v (.string t.coef), .v (.slice t.A t.exps.length t.cap)])] (by kernel_rfl) (by kernel_rfl) Zas (by kernel_rfl) ?_ ?_
  ·refine ZfN 25 (fun zb:{b:Nat // w.heap.size≤b}=>.slice (some ⟨zb.1,0,none⟩) 1 1) (fun zb zw=>Blk 9 zw zb.1 #[.string t.coef]) (fun w R Q=>ZeM (m0:=_) R.size (t:=59) (e:=9) (n:=1) (sz:=1) (z:=.string ⟨#[]⟩) (parts:=#[(0, .tmp 24)]) (by kernel_rfl) (by kernel_rfl) (by kernel_rfl) (by kernel_rfl) (by kernel_rfl) (by kernel_rfl)) (fun bb=>?_)
   obtain ⟨bs,hbs⟩:=bb
   refine Zk6 110 [.slice t.A t.exps.length t.cap] 28 (fun b:Nat=>.slice (some ⟨b,0,none⟩) t.exps.length t.exps.length) _ (fun w R Q=>(ZhW t.A t.cap t.exps _ (hg.ext (ZbM h0 hlo hgl R)) (ht ▸ (hT.ext (ZbM h0 hlo hgl R)).exps' hlt) hxt.2 (by have:=hxt.1; omega)).mono (fun _ _=>ZgB)) (fun b14=>?_)
   haveI:=AppG.some (lo:=w.heap.size) (b:=bs) (n:=1) (m:=t.exps.length) (k:=1) (cur:=[Value.string t.coef]) (news:=((t.exps.map Zaf).map Value.string)) (by simp) rfl hbs (by have:=hxt.1; simp only [maxLen]; omega)
   refine ZfN 29 (fun q:{q:Nat × Nat × List Value // AppG w.heap.size bs 1 t.exps.length 1 [Value.string t.coef] ((t.exps.map Zaf).map Value.string) q}=>.slice (some ⟨q.1.1,0,none⟩) (1 + t.exps.length) q.1.2.1) (fun q w=>t.exps.length=0∨Blk 9 w q.1.1 q.1.2.2.toArray) (fun w R Q=>Ze8 (z:=.string ⟨#[]⟩) (bytes:=16) (t:=59) (s0:=.tmp 25) (x:=.tmp 28) bs b14 t.exps.length Q.1.2 Q.2 (by simp) (by decide) rfl rfl hbs R.size (fun u hu=>by obtain ⟨q,_,rfl⟩:=List.mem_map.1 hu; rfl) (by have:=hxt.1; simp only [maxLen]; omega) (by have:=hxt.1; omega)) (fun qq=>?_)
   obtain ⟨⟨b',cap',cur'⟩,hb',hcur',hkc',hcm',htk',h0'⟩:=qq
   refine .done (SXi.weak (Ψ:=fun w=>WrIs lo g (l ++ Zax ZaW [Zaf v,Zaf ((ts.length:Nat):Int)] ++ (ts.take j).flatMap ZaR) w∧Blk 9 w b' cur'.toArray) [(0, .v (.pointer (some ⟨g,0,none⟩))),eS1 16 A ts.length c,(17, .v (.int .i64 ((ts.length:Nat):Int))),(18, .v (.int .i64 ((j:Nat):Int))),(22, .v (.pointer (some ⟨g,0,none⟩))),eS1 29 (some ⟨b',0,none⟩) (1 + t.exps.length) cap'] [] (fun w Q=>⟨Q.1.1.1,ZmS h0' Q.2 Q.1.1.2⟩) ?_ (ZaM.of (by kernel_rfl)))
   refine ZhY (d:=30) (lo:=lo) (g:=g) (l:=l ++ Zax ZaW [Zaf v,Zaf ((ts.length:Nat):Int)] ++ (ts.take j).flatMap ZaR) (l':=l ++ Zax ZaW [Zaf v,Zaf ((ts.length:Nat):Int)] ++ (ts.take j).flatMap ZaR ++ ZaR t) (v:=.tuple #[]) 109 [.pointer (some ⟨g,0,none⟩), .string Zci, .slice (some ⟨b',0,none⟩) (1 + t.exps.length) cap'] (fun _ _ h k=>WrFr.s0 h k) (by kernel_rfl) (fun w R Q=>Zlu (ts:=ts) (j:=j) Q.1 Q.2 htk' hlt ht hxt.1 hl) (fun w Q=>Q.1) ?_
   refine xr 0 [(0, .v (.pointer (some ⟨g,0,none⟩))),eS1 16 A ts.length c,(17, .v (.int .i64 ((ts.length:Nat):Int))),(18, .v (.int .i64 ((j:Nat):Int)))] [] ?_
   refine xe (ZbP (Zaa (Zab (xq 1 [(31, .v (.int .i64 (IntKind.i64.wrap (((j:Nat):Int) + 1))))] [] ?_))))
   rw [(show IntKind.i64.wrap (((j:Nat):Int) + 1)=((j + 1:Nat):Int) from by rw [IntKind.wrap_i64]; omega)]
   refine xq 1 [(18, .v (.int .i64 ((j + 1:Nat):Int)))] [] ?_
   refine xe ?_
   refine SXq.weak [(0, .v (.pointer (some ⟨g,0,none⟩))),(16, .v (.slice A ts.length c)),(17, .v (.int .i64 ((ts.length:Nat):Int))),(18, .v (.int .i64 (((j + 1):Nat):Int)))] [] (Ψ:=fun w=>WrIs lo g (l ++ Zax ZaW [Zaf v,Zaf ((ts.length:Nat):Int)] ++ (ts.take (j + 1)).flatMap ZaR) w) (ZaM.of (by kernel_rfl)) (by kernel_rfl) (fun w Q=>(by rw [ZdI hlt ht,← List.append_assoc]; exact Q)) ?_
   exact Zbm ((1 + (ts.length - (j + 1)))) (by omega) ⟨(j + 1),rfl,rfl,hlt,rfl⟩
  ·refine Zk6 110 [.slice t.A t.exps.length t.cap] 28 (fun b:Nat=>.slice (some ⟨b,0,none⟩) t.exps.length t.exps.length) _ (fun w R Q=>(ZhW t.A t.cap t.exps _ (hg.ext (ZbM h0 hlo hgl R)) (ht ▸ (hT.ext (ZbM h0 hlo hgl R)).exps' hlt) hxt.2 (by have:=hxt.1; omega)).mono (fun _ _=>ZgB)) (fun b14=>?_)
   refine ZfN 25 (fun zb:{b:Nat // w.heap.size≤b}=>.slice (some ⟨zb.1,0,none⟩) 1 1) (fun zb zw=>Blk 9 zw zb.1 #[.string t.coef]) (fun w R Q=>ZeM (m0:=_) R.size (t:=59) (e:=9) (n:=1) (sz:=1) (z:=.string ⟨#[]⟩) (parts:=#[(0, .tmp 24)]) (by kernel_rfl) (by kernel_rfl) (by kernel_rfl) (by kernel_rfl) (by kernel_rfl) (by kernel_rfl)) (fun bb=>?_)
   obtain ⟨bs,hbs⟩:=bb
   haveI:=AppG.some (lo:=w.heap.size) (b:=bs) (n:=1) (m:=t.exps.length) (k:=1) (cur:=[Value.string t.coef]) (news:=((t.exps.map Zaf).map Value.string)) (by simp) rfl hbs (by have:=hxt.1; simp only [maxLen]; omega)
   refine ZfN 29 (fun q:{q:Nat × Nat × List Value // AppG w.heap.size bs 1 t.exps.length 1 [Value.string t.coef] ((t.exps.map Zaf).map Value.string) q}=>.slice (some ⟨q.1.1,0,none⟩) (1 + t.exps.length) q.1.2.1) (fun q w=>t.exps.length=0∨Blk 9 w q.1.1 q.1.2.2.toArray) (fun w R Q=>Ze8 (z:=.string ⟨#[]⟩) (bytes:=16) (t:=59) (s0:=.tmp 25) (x:=.tmp 28) bs b14 t.exps.length Q.2 Q.1.2 (by simp) (by decide) rfl rfl hbs R.size (fun u hu=>by obtain ⟨q,_,rfl⟩:=List.mem_map.1 hu; rfl) (by have:=hxt.1; simp only [maxLen]; omega) (by have:=hxt.1; omega)) (fun qq=>?_)
   obtain ⟨⟨b',cap',cur'⟩,hb',hcur',hkc',hcm',htk',h0'⟩:=qq
   refine .done (SXi.weak (Ψ:=fun w=>WrIs lo g (l ++ Zax ZaW [Zaf v,Zaf ((ts.length:Nat):Int)] ++ (ts.take j).flatMap ZaR) w∧Blk 9 w b' cur'.toArray) [(0, .v (.pointer (some ⟨g,0,none⟩))),eS1 16 A ts.length c,(17, .v (.int .i64 ((ts.length:Nat):Int))),(18, .v (.int .i64 ((j:Nat):Int))),(22, .v (.pointer (some ⟨g,0,none⟩))),eS1 29 (some ⟨b',0,none⟩) (1 + t.exps.length) cap'] [] (fun w Q=>⟨Q.1.1.1,ZmS h0' Q.2 Q.1.2⟩) ?_ (ZaM.of (by kernel_rfl)))
   refine ZhY (d:=30) (lo:=lo) (g:=g) (l:=l ++ Zax ZaW [Zaf v,Zaf ((ts.length:Nat):Int)] ++ (ts.take j).flatMap ZaR) (l':=l ++ Zax ZaW [Zaf v,Zaf ((ts.length:Nat):Int)] ++ (ts.take j).flatMap ZaR ++ ZaR t) (v:=.tuple #[]) 109 [.pointer (some ⟨g,0,none⟩), .string Zci, .slice (some ⟨b',0,none⟩) (1 + t.exps.length) cap'] (fun _ _ h k=>WrFr.s0 h k) (by kernel_rfl) (fun w R Q=>Zlu (ts:=ts) (j:=j) Q.1 Q.2 htk' hlt ht hxt.1 hl) (fun w Q=>Q.1) ?_
   refine xr 0 [(0, .v (.pointer (some ⟨g,0,none⟩))),eS1 16 A ts.length c,(17, .v (.int .i64 ((ts.length:Nat):Int))),(18, .v (.int .i64 ((j:Nat):Int)))] [] ?_
   refine xe (ZbP (Zaa (Zab (xq 1 [(31, .v (.int .i64 (IntKind.i64.wrap (((j:Nat):Int) + 1))))] [] ?_))))
   rw [(show IntKind.i64.wrap (((j:Nat):Int) + 1)=((j + 1:Nat):Int) from by rw [IntKind.wrap_i64]; omega)]
   refine xq 1 [(18, .v (.int .i64 ((j + 1:Nat):Int)))] [] ?_
   refine xe ?_
   refine SXq.weak [(0, .v (.pointer (some ⟨g,0,none⟩))),(16, .v (.slice A ts.length c)),(17, .v (.int .i64 ((ts.length:Nat):Int))),(18, .v (.int .i64 (((j + 1):Nat):Int)))] [] (Ψ:=fun w=>WrIs lo g (l ++ Zax ZaW [Zaf v,Zaf ((ts.length:Nat):Int)] ++ (ts.take (j + 1)).flatMap ZaR) w) (ZaM.of (by kernel_rfl)) (by kernel_rfl) (fun w Q=>(by rw [ZdI hlt ht,← List.append_assoc]; exact Q)) ?_
   exact Zbm ((1 + (ts.length - (j + 1)))) (by omega) ⟨(j + 1),rfl,rfl,hlt,rfl⟩
 ·have hge:ts.length≤j:=by have:=of_decide_eq_false hb12; omega
  refine ZbL (Zaw (Zaw (Zcb ?_)))
  refine Zi9 (v:=.tuple #[]) (by kernel_rfl) (fun w' R Q=>?_)
  exact ⟨rfl,by have h:=Q; rw [List.take_of_length_le hge,List.append_assoc] at h; exact h,R⟩
end Go.Proofs.YtcpjeaaapocoeaaGreatDoor

namespace Go.Proofs.YtcpjeaaapocoeaaGreatDoor
open Go.RowKit
theorem ZnE {w w':World} {e:Ending} {l:List UInt8} (h:Zh5 w l e w'):Zbh (fun x:Int × Int × Bool=>.tuple #[.agg #[.int .i64 x.1, .int .i64 x.2.1], .bool x.2.2]) (fun x _=>Zex l x.1 x.2.1 x.2.2) w e w':=by
 obtain ⟨a,b,ok,rfl,hS,Q⟩:=h
 exact ⟨(a,b,ok),rfl,Q,BoxN.pure hS⟩
abbrev ShSp:=Bool × ByteArray × ByteArray × Bool
theorem ZnF {w w':World} {e:Ending} {s:ByteArray} (h:ZhT s w e w'):Zbh (fun x:ShSp=>.tuple #[.agg #[.bool x.1, .string x.2.1, .string x.2.2.1], .bool x.2.2.2]) (fun x _=>ZaU (bytes s)=(x.1,bytes x.2.1,bytes x.2.2.1,x.2.2.2)) w e w':=by
 obtain ⟨neg,t,d,ok,rfl,hS,Q⟩:=h
 exact ⟨(neg,t,d,ok),rfl,Q,BoxN.pure hS⟩
theorem ZqJ {x:ByteArray} (h:bytes x=[]):(x.toList == (⟨#[]⟩:ByteArray).toList)=true:=by
 rw [Lib.toList_data,Lib.toList_data,show x.data.toList=[] from h]; rfl
theorem ZqK {x:ByteArray} (h:¬ bytes x=[]):(x.toList == (⟨#[]⟩:ByteArray).toList)=false:=by
 rw [Lib.toList_data,Lib.toList_data]
 exact beq_eq_false_iff_ne.2 h
theorem ZoR {l:List UInt8} {neg:Bool} {t d:List UInt8} (h:ZaU l=(neg,t,d,false)):ZaB l=none:=by unfold ZaB; rw [h]
theorem ZoS {l:List UInt8} {neg:Bool} {t d:List UInt8} (h:ZaU l=(neg,t,d,true)) (hd:d=[]):(ZaB l).isSome=true:=by unfold ZaB; rw [h]; simp [hd]
theorem ZoT {l:List UInt8} {neg:Bool} {t d:List UInt8} (h:ZaU l=(neg,t,d,true)) (hd:¬ d=[]):(ZaB l).isSome=decide (((Int.gcd (Zad t:Int) (Zad d:Int):Nat):Int)=1):=by
 unfold ZaB
 rw [h]
 have e:Int.gcd (Zad t:Int) (Zad d:Int)=Nat.gcd (Zad t) (Zad d):=rfl
 rw [e]
 simp only [if_neg hd]
 by_cases hg:Nat.gcd (Zad t) (Zad d)=1
 ·rw [if_pos hg,hg]; rfl
 ·rw [if_neg hg]; simp; omega
theorem ZnG {l:List UInt8} {a b:Int} (h:Zex l a b true):(ZaB l).isSome=true:=by
 rcases h with ⟨_,q,h,_⟩ | ⟨h,_⟩
 ·rw [h]; rfl
 ·cases h
theorem ZoU (s:ByteArray) (w:World) (hg:Glob w) (hs:(bytes s).length≤570) :
 Calls Tryz.prog 187 #[.string s] w (RetV w (.bool (ZaB (bytes s)).isSome)):=by
 have hs8:s.size≤1099511627776:=by rw [Zag] at hs; omega
 refine Za6 (Φ:=fun w=>Glob w) Tryz.func187 rfl (by kernel_rfl) (fun w' hf=>hg.ext hf) ?_
 refine Zac (Zab (xr 1 [(0, .v (.string s)),(2, .v (.bool false))] [] ?_))
 refine xe (Zaa (Zac (Zac (Zab (xr 1 [(0, .v (.string s)),(2, .v (.bool false)),(8, .v (.string s))] [] ?_)))))
 refine xc 233 [.string s] 9 (fun x:Int × Int × Bool=>.tuple #[.agg #[.int .i64 x.1, .int .i64 x.2.1], .bool x.2.2]) _ (fun w R Q=>(Zks s _ hs8).mono (fun _ _=>ZnE)) (fun xx=>?_)
 obtain ⟨sa,sb,xok⟩:=xx
 rcases xok with _ | _
 ·refine xr 6 [(0, .v (.string s)),(2, .v (.bool false)),(4, .v (.bool false))] [] ?_
  refine xe (Zaa (Zac (Zab (xr 1 [(0, .v (.string s)),(2, .v (.bool false)),(12, .v (.bool false))] [] ?_))))
  refine xe (Zaa (xb (Zav (Zaa (Zac (Zab (xr 1 [(2, .v (.bool false)),(14, .v (.string s))] [] ?_)))))))
  refine xc 280 [.string s] 15 (fun x:ShSp=>.tuple #[.agg #[.bool x.1, .string x.2.1, .string x.2.2.1], .bool x.2.2.2]) _ (fun w R Q=>(Zgw s _ hs8).mono (fun _ _=>ZnF)) (fun xx=>?_)
  obtain ⟨xneg,xt,sd,yok⟩:=xx
  rcases yok with _ | _
  ·refine xr 6 [(2, .v (.bool false)),(5, .p 5 0),(6, .v (.bool false))] [(5,360,[.v (.bool xneg), .v (.string xt), .v (.string sd)])] ?_
   refine xe (Zaa (Zac (Zac ?_)))
   refine SXc.know (p:=ZaU (bytes s)=(xneg,bytes xt,bytes sd,false)) (fun w _ Q=>Q.2) (fun HK=>?_)
   refine Zab (xr 7 [(2, .v (.bool false)),(5, .p 5 0),(6, .v (.bool false)),(24, .v (.bool true))] [(5,360,[.v (.bool xneg), .v (.string xt), .v (.string sd)])] ?_)
   refine xe (Zaa (xa (Zac (Zab (xr 2 [(2, .v (.bool false)),(5, .p 5 0)] [(5,360,[.v (.bool xneg), .v (.string xt), .v (.string sd)])] ?_)))))
   refine xe (Zaa (Zau (Zae ?_)))
   refine Zai (v:=.bool false) (by kernel_rfl) (fun w' R Q=>?_)
   exact ⟨by rw [ZoR HK]; rfl,R⟩
  ·refine xr 6 [(2, .v (.bool false)),(5, .p 5 0),(6, .v (.bool true))] [(5,360,[.v (.bool xneg), .v (.string xt), .v (.string sd)])] ?_
   refine xe (Zaa (Zac (Zac ?_)))
   refine SXc.know (p:=ZaU (bytes s)=(xneg,bytes xt,bytes sd,true)) (fun w _ Q=>Q.2) (fun HK=>?_)
   by_cases hd:bytes sd=[]
   ·refine Zab (xr 6 [(2, .v (.bool false)),(5, .p 5 0),(6, .v (.bool true)),(20, .v (.bool false)),(23, .v (.bool ((sd:ByteArray).toList == (⟨#[]⟩:ByteArray).toList)))] [(5,360,[.v (.bool xneg), .v (.string xt), .v (.string sd)])] ?_)
    rw [ZqJ hd]
    refine xr 1 [(2, .v (.bool false)),(5, .p 5 0),(6, .v (.bool true)),(24, .v (.bool true))] [(5,360,[.v (.bool xneg), .v (.string xt), .v (.string sd)])] ?_
    refine xe (Zaa (xa (Zac (Zab (xr 2 [(2, .v (.bool true)),(5, .p 5 0)] [(5,360,[.v (.bool xneg), .v (.string xt), .v (.string sd)])] ?_)))))
    refine xe (Zaa (Zau (Zae ?_)))
    refine Zai (v:=.bool true) (by kernel_rfl) (fun w' R Q=>?_)
    exact ⟨by rw [ZoS HK hd],R⟩
   ·refine Zab (xr 6 [(2, .v (.bool false)),(5, .p 5 0),(6, .v (.bool true)),(20, .v (.bool false)),(23, .v (.bool ((sd:ByteArray).toList == (⟨#[]⟩:ByteArray).toList)))] [(5,360,[.v (.bool xneg), .v (.string xt), .v (.string sd)])] ?_)
    rw [ZqK hd]
    refine xr 1 [(2, .v (.bool false)),(5, .p 5 0),(6, .v (.bool true)),(24, .v (.bool false))] [(5,360,[.v (.bool xneg), .v (.string xt), .v (.string sd)])] ?_
    refine xe (Zaa (xb (Zav (Zaa (Zac ?_)))))
    obtain ⟨hdigxt,hdigsd,hll⟩:=Zcl HK
    have hprsxt:ZcK xt.size:=by unfold ZcK; rw [← Zag]; omega
    have hprssd:ZcK sd.size:=by unfold ZcK; rw [← Zag]; omega
    have hwt:wl ((Zad (bytes xt):Nat):Int).natAbs≤79:=by rw [Int.natAbs_natCast]; exact Nat.le_trans (ZiW hdigxt (by omega)) (by decide)
    have hwd:wl ((Zad (bytes sd):Nat):Int).natAbs≤79:=by rw [Int.natAbs_natCast]; exact Nat.le_trans (ZiW hdigsd (by omega)) (by decide)
    have hft:Fits ((Zad (bytes xt):Nat):Int):=by unfold Fits; omega
    have hfd:Fits ((Zad (bytes sd):Nat):Int):=by unfold Fits; omega
    refine ZbJ 9 (by kernel_rfl) (by kernel_rfl) Zas ?_
    refine xf 2 [(2, .v (.bool false)),(5, .p 5 0),(27, .v (.string xt))] [(5,360,[.v (.bool xneg), .v (.string xt), .v (.string sd)])] ?_
    refine xd 52 [.string xt] 28 Zbz _ (fun w R Q=>(Zda xt _ hdigxt hprsxt).mono (fun _ _=>ZhV)) (fun xx=>?_)
    obtain ⟨s10,A10,l10,c10⟩:=xx
    refine xf 2 [(2, .v (.bool false)),eI2 28 s10 A10 l10 c10,(30, .v (.string sd))] [(5,360,[.v (.bool xneg), .v (.string xt), .v (.string sd)])] ?_
    refine xd 52 [.string sd] 31 Zbz _ (fun w R Q=>(Zda sd _ hdigsd hprssd).mono (fun _ _=>ZhV)) (fun xx=>?_)
    obtain ⟨s11,A11,l11,c11⟩:=xx
    refine xf 0 [(2, .v (.bool false)),eI2 28 s10 A10 l10 c10,eI2 31 s11 A11 l11 c11] [(5,360,[.v (.bool xneg), .v (.string xt), .v (.string sd)])] ?_
    refine xd 121 [vI2 s10 A10 l10 c10,vI2 s11 A11 l11 c11] 32 Zbz _ (fun w R Q=>(Zjg _ _ ((Zad (bytes xt):Int)) ((Zad (bytes sd):Int)) _ Q.1.1.1.1 Q.1.2 Q.2 hft hfd (ZeY.words hwt hwd)).mono (fun _ _=>ZhV)) (fun xx=>?_)
    obtain ⟨s12,A12,l12,c12⟩:=xx
    refine xf 0 [(2, .v (.bool false)),eI2 32 s12 A12 l12 c12] [(5,360,[.v (.bool xneg), .v (.string xt), .v (.string sd)])] ?_
    refine xd 120 [vI2 s12 A12 l12 c12] 33 (fun _:Unit=>.bool (decide ((((Int.gcd ((Zad (bytes xt):Int)) ((Zad (bytes sd):Int)):Nat):Int))=1))) _ (fun w R Q=>(Zgr _ (((Int.gcd ((Zad (bytes xt):Int)) ((Zad (bytes sd):Int)):Nat):Int)) _ Q.2).mono (fun _ _ h=>Zay h rfl)) (fun xx=>?_)
    refine xf 1 [(2, .v (.bool (decide ((((Int.gcd ((Zad (bytes xt):Int)) ((Zad (bytes sd):Int)):Nat):Int))=1))))] [(5,360,[.v (.bool xneg), .v (.string xt), .v (.string sd)])] ?_
    refine xz (xe (Zaa (Zau ?_)))
    refine Zai (v:=.bool (decide ((((Int.gcd ((Zad (bytes xt):Int)) ((Zad (bytes sd):Int)):Nat):Int))=1))) (by kernel_rfl) (fun w' R Q=>?_)
    exact ⟨by rw [ZoT HK hd],R⟩
 ·refine xr 6 [(0, .v (.string s)),(2, .v (.bool false)),(4, .v (.bool true))] [] ?_
  refine xe (Zaa (Zac (Zab (xr 1 [(0, .v (.string s)),(2, .v (.bool false)),(12, .v (.bool true))] [] ?_))))
  refine xe (Zaa (xa (Zac (Zab (xr 1 [(0, .v (.string s)),(2, .v (.bool true))] [] ?_)))))
  refine xe (Zaa (Zau (Zae ?_)))
  refine Zai (v:=.bool true) (by kernel_rfl) (fun w' R Q=>?_)
  exact ⟨by rw [ZnG Q.2],R⟩
end Go.Proofs.YtcpjeaaapocoeaaGreatDoor

namespace Go.Proofs.YtcpjeaaapocoeaaGreatDoor
open Go.RowKit
theorem res2 {fn:Func} {tmps:Array Value} {w:World} {p q:Nat} {T:TypeId} {zs:List Value} {e:Int} (hr:fn.results=#[ResultVar.cell 4 T,ResultVar.cell 5 30]) (h4:tmps[4]? = some (.pointer (some ⟨p,0,none⟩))) (h5:tmps[5]? = some (.pointer (some ⟨q,0,none⟩)))
 (hp:Blk T w p zs.toArray) (hq:Blk 30 w q #[.int .i64 e]) (hT:(teOf Tryz.prog T).map (fun e=>(e.agg,e.size))=some (true,zs.length)):(results fn tmps).run Tryz.prog w=.ok (.tuple #[.agg zs.toArray, .int .i64 e]) w:=by
 obtain ⟨te,hte,h1⟩:=Option.map_eq_some_iff.1 hT
 injection h1 with ha hn
 have Q:(teOf Tryz.prog 30).map (fun e=>e.agg)=some false:=by kernel_rfl
 obtain ⟨ee,hee,hea⟩:=Option.map_eq_some_iff.1 Q
 have l1:=Zej (P:=Tryz.prog) (w:=w) hte (g:=p) (off:=0) (cs:=zs) hn.symm (fun j hj=>by rw [Nat.zero_add,hp.cell]; simp [hj]) ha
 have l2:=Zfa (P:=Tryz.prog) (w:=w) hee (g:=q) (off:=0) (c:=.int .i64 e) (by rw [hq.cell]; rfl) hea
 simp only [Instr.loadAt,Instr.sureAddr,Sem.run_bind,Sem.run_pure,Result.andThen_ok] at l1 l2
 rw [Ziw,hr,Array.mapM_eq_mapM_toList]
 simp [Zfq,h4,h5,asAddr,l1,l2,Result.andThen_ok]
end Go.Proofs.YtcpjeaaapocoeaaGreatDoor

namespace Go.Proofs.YtcpjeaaapocoeaaGreatDoor
open Go.RowKit
section
variable {P:Program} {ops:Array Oper} {Q:Exit→Act→World→Prop} {a:Act} {w:World} {l:List Oper} {o:Oper}
def mvB (o:Oper):Bool:=match o.op with
 | .move _ | .assign _ | .extract _ _=>o.dst.isSome
 | _=>false
theorem Zo2 (hm:mvB o=true) (h:wpList P ops Q (o :: l) a w):∃ v,Yields P ops o v a∧wpList P ops Q l (a.put o.dst v) w:=by
 unfold wpList at h
 by_cases hw:Region.wanted o (yielded ops a.tmps)=true
 ·rw [if_pos hw] at h
  unfold mvB at hm
  cases ho:o.op<;>rw [ho] at hm<;>first | (cases hm; done) | skip
  ·rename_i x
   refine ⟨a.eval x,Or.inl ⟨hw,fun w=>by simp [execOp,ho]⟩,?_⟩
   rcases h with h | ⟨⟨h,_⟩,_⟩
   ·simpa [Oper.wp,Oper.upon,execOp,ho] using h
   ·simp only [execOp,ho] at h
    exact absurd (show noRoomEvent ∈ (#[]:Array Event) from h) (by simp)
  ·rename_i x
   refine ⟨a.eval x,Or.inl ⟨hw,fun w=>by simp [execOp,ho]⟩,?_⟩
   rcases h with h | ⟨⟨h,_⟩,_⟩
   ·simpa [Oper.wp,Oper.upon,execOp,ho] using h
   ·simp only [execOp,ho] at h
    exact absurd (show noRoomEvent ∈ (#[]:Array Event) from h) (by simp)
  ·rename_i x ix
   have key:(∃ v,Instr.extract (a.eval x) ix=pure v)∨∃ m,Instr.extract (a.eval x) ix=stuck m:=by
    unfold Instr.extract
    split
    ·split
     ·exact Or.inl ⟨_,rfl⟩
     ·exact Or.inr ⟨_,rfl⟩
    ·exact Or.inr ⟨_,rfl⟩
   rcases key with ⟨v,hv⟩ | ⟨m,hv⟩
   ·refine ⟨v,Or.inl ⟨hw,fun w=>by simp [execOp,ho,hv]⟩,?_⟩
    rcases h with h | ⟨⟨h,_⟩,_⟩
    ·simpa [Oper.wp,Oper.upon,execOp,ho,hv] using h
    ·simp only [execOp,ho,hv] at h
     exact absurd (show noRoomEvent ∈ (#[]:Array Event) from h) (by simp)
   ·rcases h with h | ⟨⟨h,_⟩,_⟩
    ·simp only [Oper.wp,execOp,ho,hv] at h
     exact absurd (show False from h) (fun e=>e)
    ·simp only [execOp,ho,hv] at h
     exact absurd (show noRoomEvent ∈ (#[]:Array Event) from h) (by simp)
 ·rw [if_neg hw] at h
  exact ⟨undef,Or.inr ⟨by simpa using hw,rfl⟩,h⟩
def seqA (ops:Array Oper):Nat→Nat→Array Bool→Bool
 | 0,_,listed=>(Region.ready .any ops listed).isEmpty
 | g + 1,k,listed=>(decide (Region.ready .any ops listed=[k]) || (mvB (opAt ops k) && (Region.free .any ops listed k && (Region.ready .any ops listed).contains k))) && seqA ops g (k + 1) (listed.setIfInBounds k true)
theorem Zeh (hs:Region.noSelect ops=true) (hQ:∀ (c:_) (a:Act) (w:World) (d:Nat) (v:Value),Q (.panic c) (a.put (some d) v) w→Q (.panic c) a w):∀ (l:List Oper) (k:Nat) (listed:Array Bool) (a:Act) (w:World),(∀ j,l[j]? = ops[k + j]?) →
 seqA ops l.length k listed=true→wpList P ops Q l a w→wpAny P .any ops Q l.length listed a w
 | [],_,_,_,_,_,hB,h=>⟨by simpa [seqA] using hB,h⟩
 | o :: l,k,listed,a,w,hl,hB,h=>by
   have h0:ops[k]? = some o:=by simpa using (hl 0).symm
   have hl':∀ j,l[j]? = ops[k + 1 + j]? := fun j=>by have:=hl (j + 1); simpa [Nat.add_assoc,Nat.add_comm 1 j] using this
   simp only [List.length_cons,seqA,Bool.and_eq_true,Bool.or_eq_true,decide_eq_true_eq] at hB
   obtain ⟨h1 | ⟨h1,h2,h3⟩,hB⟩:=hB
   ·refine ⟨fun h2=>(by rw [h1] at h2; cases h2),fun i hi=>?_⟩
    rw [h1] at hi
    have hik:i=k:=by simpa using hi
    subst hik
    have hw:wpOp P ops Q i (wpList P ops Q l) a w:=by unfold wpOp; simp only [h0]; exact h
    exact wpOp_mono (fun a' w' h'=>Zeh hs hQ l (i + 1) _ a' w' hl' hB h') hw
   ·have hop:opAt ops k=o:=Option.some.inj ((Zct (Array.getElem?_eq_some_iff.1 h0).1).symm.trans h0)
    rw [hop] at h1
    obtain ⟨v,hy,hw⟩:=Zo2 h1 h
    obtain ⟨d,hd⟩:∃ d,o.dst=some d:=by
     unfold mvB at h1
     cases hd:o.dst with
     | some d=>exact ⟨d,rfl⟩
     | none=>rw [hd] at h1; split at h1<;>cases h1
    exact wpAny_take h0 hs h2 h3 (fun c a w h=>by rw [hd] at h; exact hQ c a w d v h) hy (Zeh hs hQ l (k + 1) _ _ w hl' hB hw)
end
end Go.Proofs.YtcpjeaaapocoeaaGreatDoor

namespace Go.Proofs.YtcpjeaaapocoeaaGreatDoor
open Go.RowKit
section
variable {N:Nat} {S0:Nat→Prop} {w0:World} {s:St} {Φ Φ0:World→Prop} {L:Nat→Nat} {a:Act} {w:World} {P:Program} {ops:Array Oper} {Q:Exit→Act→World→Prop} {fin:St→(World→Prop)→Prop}
def ZnJ (R:Nat→Nat→Bool) (ops:Array Oper) (n i:Nat):Bool:=(List.range ops.size).all fun t=>decide (t < n) || R t i
theorem ZlB (K:Nat) (ops:Array Oper):ZdU ops (Zdj .any ops K):=fun _ hc j _ h hall=>ZeC hc K j h hall
theorem Zo3 {R:Nat→Nat→Bool} {n i j:Nat} {listed:Array Bool} (hR:ZdU ops R) (ht:ZnJ R ops n i=true) (hc:Zb9 .any ops listed) (hi:listed.getD i true=false) (hj:j ∈ Region.ready .any ops listed):j < n:=by
 obtain ⟨_,oj,hoj,hall⟩:=mem_ready.1 hj
 have h1:=List.all_eq_true.1 ht j (List.mem_range.2 (Array.getElem?_eq_some_iff.1 hoj).1)
 simp only [Bool.or_eq_true,decide_eq_true_eq] at h1
 rcases h1 with h1 | h1
 ·exact h1
 ·have h2:=hR listed hc j i h1 (fun o ho=>by
   have:o=oj:=Option.some.inj (ho.symm.trans hoj)
   subst this
   exact hall)
  rw [getD_both hi] at h2
  cases h2
theorem ZnK {s0:St} {n:Nat} {R:Nat→Nat→Bool} (hR:ZdU ops R) (hu:Zc2 ops=true) (hn:n≤ops.size) (hback:Zdk ops=true) (hnos:Region.noSelect ops=true) (hQ:∀ (c:_) (a:Act) (w:World) (d:Nat) (v:Value),Q (.panic c) (a.put (some d) v) w→Q (.panic c) a w) (hpair:Zg5 R ops s0 n=true) (hseq:seqA ops (ops.size - n) n (ZbF ops n)=true) (hne:∃ w,Φ0 w)
 (hfin:∀ s Φ,fin s Φ→∀ L a w,Inv N S0 w0 s Φ L a w→wpList P ops Q (ops.toList.drop n) a w) :
 ∀ (k:Nat) (listed:Array Bool) (s:St) (Φ:World→Prop) (L:Nat→Nat) (a:Act) (w:World),(un n listed).length=k→listed.size=ops.size→(∀ i,n≤i→i < ops.size→listed.getD i true=false)→(∀ i,i ∈ un n listed→ZnJ R ops n i=true)→Zb9 .any ops listed →
   BI ops s0 s→(∀ w,Φ w→Φ0 w)→Inv N S0 w0 s Φ L a w→Strat P N S0 w0 ops Φ0 fin (un n listed) s Φ→wpAny P .any ops Q (k + (ops.size - n)) listed a w:=by
 intro k
 induction k with
 | zero =>
   intro listed s Φ L a w hk hsz htl _ hcl hBI S hi hS
   have hnil:un n listed=[]:=List.length_eq_zero_iff.1 hk
   rw [hnil] at hS
   have hl:listed=ZbF ops n:=by
    refine Array.ext (by simp [ZbF,hsz]; omega) (fun i h1 h2=>?_)
    have hi':i < ops.size:=by rw [← hsz]; exact h1
    have e:listed.getD i true=listed[i]:=by simp [h1]
    rw [← e]
    by_cases hin:i < n
    ·have:listed.getD i true≠false:=fun h=>by
      have:=Zca.2 ⟨hin,h⟩
      rw [hnil] at this
      cases this
     simp only [ZbF,List.getElem_toArray]
     rw [List.getElem_append_left (by simpa using hin),List.getElem_replicate]
     cases h:listed.getD i true with
     | true=>rfl
     | false=>exact absurd h this
    ·rw [htl i (by omega) hi']
     simp only [ZbF,List.getElem_toArray]
     rw [List.getElem_append_right (by simpa using hin),List.getElem_replicate]
   have hdl:(ops.toList.drop n).length=ops.size - n:=by simp
   cases hS with
   | done hf =>
     have:=Zeh hnos hQ (ops.toList.drop n) n listed a w (fun j=>by simp [List.getElem?_drop]) (by rw [hdl,hl]; exact hseq) (hfin _ _ hf L a w hi)
     rw [hdl] at this
     rw [Nat.zero_add]; exact this
 | succ k ih =>
   intro listed s Φ L a w hk hsz htl htail hcl hBI S hi hS
   rw [show k + 1 + (ops.size - n)=(k + (ops.size - n)) + 1 by omega]
   obtain ⟨x,R',hR'⟩:∃ x R,un n listed=x :: R:=by
    cases h:un n listed with
    | nil=>rw [h] at hk; cases hk
    | cons x R=>exact ⟨x,R,rfl⟩
   have hx:=Zca.1 (by rw [hR']; exact List.mem_cons_self:x ∈ un n listed)
   have hmin:∀ i,i < x→listed.getD i true=true:=fun i hix=>by
    cases h:listed.getD i true with
    | true=>rfl
    | false =>
      have:=Zca.2 ⟨(by omega:i < n),h⟩
      rw [hR'] at this
      have hs:=ZdB n listed
      rw [hR'] at hs
      rcases List.mem_cons.1 this with e | e
      ·omega
      ·have:=(List.pairwise_cons.1 hs).1 i e; omega
   have hxr:x ∈ Region.ready .any ops listed:=by
    have hxs:x < ops.size:=by omega
    refine mem_ready.2 ⟨hx.2,opAt ops x,Zct hxs,fun e he heb=>?_⟩
    have h1:=List.all_eq_true.1 hback x (List.mem_range.2 hxs)
    rw [Zct hxs] at h1
    have h2':=Array.all_eq_true'.1 h1 e he
    rw [heb] at h2'
    have h2:=Nat.le_of_ble_eq_true h2'
    have h3:=hmin e.on h2
    have h4:e.on < listed.size:=by rw [hsz]; exact Nat.lt_trans h2 hxs
    simp [h4] at h3 ⊢; exact h3
   refine ⟨fun h=>(by rw [h] at hxr; cases hxr),fun j hj=>?_⟩
   have hjn:j < n:=Zo3 hR (htail x (Zca.2 hx)) hcl hx.2 hj
   obtain ⟨hjun,oj,hoj,hall⟩:=mem_ready.1 hj
   have hjm:j ∈ un n listed:=Zca.2 ⟨hjn,hjun⟩
   obtain ⟨l1,l2,hl⟩:=List.append_of_mem hjm
   have hs:=ZdB n listed
   rw [hl] at hs
   have hap:∀ y,y ∈ l1→y < ops.size∧(opAt ops y).apart ops (opAt ops j)=true∧(Zch (opAt ops y).op (opAt ops j).op=true∨(lsB (opAt ops y).op (opAt ops j).op=true∧farB ops s0 (opAt ops y) (opAt ops j)=true)):=fun y hy=>by
    have hyj:y < j:=(List.pairwise_append.1 hs).2.2 y hy j List.mem_cons_self
    have hyu:=(Zca.1 (by rw [hl]; exact List.mem_append_left _ hy:y ∈ un n listed)).2
    have h1:=List.all_eq_true.1 (List.all_eq_true.1 hpair j (List.mem_range.2 hjn)) y (List.mem_range.2 hyj)
    rw [Bool.or_eq_true] at h1
    rcases h1 with h1 | h1
    ·have h2:=hR listed hcl j y h1 (fun o ho=>by
      have:o=oj:=Option.some.inj (ho.symm.trans hoj)
      subst this
      exact hall)
     rw [getD_both hyu] at h2
     cases h2
    ·simp only [Bool.and_eq_true,Bool.or_eq_true] at h1
     exact ⟨by omega,h1⟩
   rw [hl] at hS
   have hS':=Strat.front hu hne l1 l2 s Φ hi.wf hBI hap hS
   refine Strat.exec hu hBI (by omega) hi S hS' (fun s' Φ' L' a' w' hBI' hΦ' hi' K'=>?_)
   have hun':=Zn5 hl
   refine ih (listed.setIfInBounds j true) s' Φ' L' a' w' ?_ (by simp [hsz]) (fun i h1 h2=>?_) (fun i h1=>htail i (by rw [hun'] at h1; rw [hl]; rcases List.mem_append.1 h1 with h2 | h2; exact List.mem_append_left _ h2; exact List.mem_append_right _ (List.mem_cons_of_mem _ h2))) (hcl.set hj) hBI' hΦ' hi' (by rw [hun']; exact K')
   ·rw [hun']
    rw [hl] at hk
    simp only [List.length_append,List.length_cons] at hk ⊢
    omega
   ·rw [getD_set_ne true (by omega)]; exact htl i h1 h2
theorem ZlC {id:Nat} (K n:Nat) {sl:SlL} {bl:BlL} (h:StI P N S0 w0 ops Φ Q n 0 (ofL sl bl) Φ)
 (hI:ZeV ops sl=true:=by kernel_rfl) (hm:P.follows .mixedOrders=true:=by exact Zas)
 (hB:(Nat.ble n ops.size && (Zc2 ops && Zdk ops && ((List.range n).all (fun i=>ZnJ (Zdj .any ops K) ops n i) && (Zg5 (Zdj .any ops K) ops (ofL sl bl) n && seqA ops (ops.size - n) n (ZbF ops n)))))=true:=by kernel_rfl)
 (hs:Region.noSelect ops=true:=by kernel_rfl)
 (hQ:∀ (c:_) (a:Act) (w:World) (d:Nat) (v:Value),Q (.panic c) (a.put (some d) v) w→Q (.panic c) a w:=by exact fun _ _ _ _ _ h=>h):SXc P N S0 w0 Q (.region id ops true) (ofL sl bl) Φ:=by
 simp only [Bool.and_eq_true] at hB
 obtain ⟨h1,⟨h0,h2⟩,h3,h4,h5⟩:=hB
 have hn:=Nat.le_of_ble_eq_true h1
 intro L a w hi
 refine wp_region_any hm ?_
 have hun:un n (Array.replicate ops.size false)=List.range n:=by
  unfold un
  refine List.filter_eq_self.2 (fun i hi'=>?_)
  have:=List.mem_range.1 hi'
  simp [show i < ops.size by omega]
 have:=ZnK (ZlB K ops) (Q:=Q) (fin:=fun s Φ=>SXi P N S0 w0 ops Q n s Φ) h0 hn h2 hs hQ h4 h5 ⟨w,hi.box.self⟩ (fun s Φ hf L a w hi'=>hf L a w hi') (un n (Array.replicate ops.size false)).length (Array.replicate ops.size false) _ Φ L a w.drew rfl (by simp)
  (fun i _ h'=>by simp [h']) (fun i hi'=>by rw [hun] at hi'; exact List.all_eq_true.1 h3 i hi') (fun j oj _ hl=>by rw [getD_replicate_false] at hl; cases hl) (BI.init hI) (fun _ h=>h) hi.drew (by rw [hun,List.range_eq_range']; exact h)
 rw [hun,List.length_range,show n + (ops.size - n)=ops.size by omega] at this
 exact this
end
end Go.Proofs.YtcpjeaaapocoeaaGreatDoor
