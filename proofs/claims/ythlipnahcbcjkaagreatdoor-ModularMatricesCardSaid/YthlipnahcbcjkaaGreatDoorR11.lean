/-
 My texts Gcd1, Gcd2, Int4, Int5, Res, Split, Print0, Smp, Smp2, Spl, Spl2, Print, Num6, Num7, Ref1, Ref2, Ref3 put together.
-/
import Derived.Test.YthlipnahcbcjkaaGreatDoorR10
import Derived.Test.YthlipnahcbcjkaaGreatDoorR08
import Derived.Test.YthlipnahcbcjkaaGreatDoorR05
import Derived.Test.YthlipnahcbcjkaaGreatDoorR07
import Derived.Deep.LoopGhost
import Derived.Test.YthlipnahcbcjkaaGreatDoorR02
import Derived.Laws.BitsAllLaws
import Derived.Test.YthlipnahcbcjkaaGreatDoorR03
import Derived.Deep.QuietTactic
import Derived.BigQuiet
import Derived.Outline
import Derived.Lib.Strings
import Derived.RegionTactic
import Derived.BigRegion
import Derived.Laws.IdiomStrings
import Derived.Deep.RegionWith
import Derived.Test.YthlipnahcbcjkaaGreatDoorR06
import Derived.Test.YthlipnahcbcjkaaGreatDoorR01
set_option maxRecDepth 100000
namespace Go.Proofs.YthlipnahcbcjkaaGreatDoor
open Go.RowKit
set_option maxHeartbeats 4000000 in
theorem ZlG (u v:Value) (m n g:Nat) (w:World) (hg:Glob w) (hu:Zaf w u m) (hv:Zaf w v n) (hm:wl m≤4294967296) (hn:n < W64) (h0:0 < n) (hle:n≤m) (eg:Nat.gcd m n=g) :
 Calls Tryz.prog 167 #[u,v] w (Zba w g):=by
 obtain ⟨A,xs,c,rfl,hc,h1,h2,h3,h4⟩:=hu
 obtain ⟨A2,ys,c2,rfl,hc2,k1,k2,k3,k4⟩:=hv
 have hlx:=Zaz h2 h3
 have hly:=Zaz k2 k3
 rw [h4] at hlx
 rw [k4] at hly
 have hl1:ys.length=1:=by
  have:=ZcB.2 hn
  have:=ZeY h0
  omega
 obtain ⟨y,rfl⟩:∃ y,ys=[y]:=by match ys,hl1 with | [y],_=>exact ⟨y,rfl⟩
 simp at k4
 subst k4
 have HU:Hid (Zaf w (.slice A xs.length c) m):=⟨A,xs,c,rfl,hc,h1,h2,h3,h4⟩
 have HV:Hid (Zaf w (.slice A2 1 c2) y):=⟨A2,[y],c2,rfl,hc2,k1,k2,k3,by simp⟩
 have HX:=zh h1
 have HY:=zh k1
 have Hm:Hid (wl m≤4294967296∧xs.length≤4294967296):=⟨hm,by omega⟩
 have Hn:=zh hn
 have Hle:=zh hle
 have Hy0:=zh h0
 have Hdx:=zh h2
 have Hval:=zh h4
 have Heg:=zh eg
 have HG:=zh hg
 clear hm hn hle h1 k1 k2 k3 h3 h2 hc hc2 hlx hly hl1 h4 eg hg h0
 go_enter Tryz.func167,Tryz.ntmps167
 go_wp2_with fail
 refine (Zbm _ _ m y w HU.out HV.out Hm.out.1 (by have:=ZcB.2 Hn.out; omega)).mono ?_
 rintro e w' ⟨rfl,nd,hw'⟩
 obtain ⟨q,hq⟩:∃ q,cmpI m y=q:=⟨_,rfl⟩
 have hq0:(0:Int)≤q:=by rw [← hq]; exact Zdv Hle.out
 have hq1:decide (q < 0)=false:=by simp; omega
 rw [hq]
 have HE0:Hid (Ext w w'):=hw' ▸ (Fr.refl _ w).drewN nd
 clear hq hw' hq0
 go_wp2_with fail
 refine (ZbG A xs _ c w' rfl (HX.out.ext HE0.out) Hm.out.2).mono ?_
 rintro e w1 ⟨A1,cap1,rfl,hB1,hF1,hA1⟩
 have HS1:Hid (Zan .u64 w1 A1 xs):=hB1.shows
 have HE1:Hid (Ext w w1):=HE0.out.trans hF1
 clear hB1 hF1 hA1
 go_wp2_with fail
 refine (ZbG A2 [y] 1 c2 w1 rfl (HY.out.ext HE1.out) (by omega)).mono ?_
 rintro e w2 ⟨A3,cap3,rfl,hB3,hF3,hA3⟩
 have hy3:Hid (Zan .u64 w2 A3 [y]):=hB3.shows
 obtain ⟨b3,o3,rfl,hb3,hc3⟩:=hy3.out.at (i:=0) (by simp)
 simp at hc3
 have HS2:Hid (Zan .u64 w2 A1 xs):=HS1.out.ext hF3
 have HE2:Hid (Ext w w2):=HE1.out.trans hF3
 have hb3:=zh hb3
 clear hB3 hF3 hA3 hy3 HS1
 obtain ⟨x,ex⟩:∃ x,xs.length=x:=⟨_,rfl⟩
 rw [ex]
 go_wp2_with fail
 obtain ⟨r,er⟩:∃ r,m % y=r:=⟨_,rfl⟩
 go_loopw [5,6] (fun av bv wr=>av=.slice A1 x cap1∧bv=.slice (some ⟨b3,o3,none⟩) 1 cap3∧wr=w2) (fun _ _ _=>0)
 case atStart=>exact ⟨rfl,rfl,rfl⟩
 case round =>
  obtain ⟨rfl,rfl,rfl⟩:=hrel
  go_wp2_with fail
  have HC3:Hid (wr.cell? ⟨b3,o3,none⟩=some (.int .u64 (y:Int))):=hc3
  have hb3':Hid (b3 < wr.heap.size):=hb3.out
  have hzz:Hid (r < W64∧Nat.gcd y r=g∧g < W64):=by
   have h1:=Nat.mod_lt m Hy0.out
   have h2:=Hn.out
   have h3:=Nat.gcd_le_right m Hy0.out
   rw [Heg.out] at h3
   refine ⟨by omega,?_,by omega⟩
   rw [← er,← Heg.out,Nat.gcd_comm y,← Nat.gcd_rec,Nat.gcd_comm]
  go_region_held3 (fun w'=>w'.cell? ⟨b3,o3,none⟩=some (.int .u64 (y:Int)))
   (first | exact HC3.out | exact (Fr.cell (p:=⟨b3,o3,none⟩) (Fr.undrew hFF) hb3'.out (fun f=>f)).trans HC3.out)
   (first
    | (go_at_call 201
       refine (Zbq A1 xs x cap1 y _ ex HS2.out.drew (by have:=Hm.out.2; omega) Hdx.out Hy0.out Hn.out).mono ?_
       rintro e w4 ⟨rfl,nd4,hw4⟩
       rw [Hval.out,er]
       have hFF:Ext wr.drew w4:=hw4 ▸ (Fr.refl _ wr.drew).drewN nd4
       clear hw4)
    | (go_at_call 234
       refine (Zev y r g _ (HG.out.ext (HE2.out.trans (Fr.undrew hFF))) Hn.out hzz.out.1 hzz.out.2.1).mono ?_
       rintro e w5 ⟨rfl,rfl⟩)
    | (go_at_call 200
       refine (ZcC g _ hzz.out.2.2).mono ?_
       rintro e w6 ⟨v6,rfl,hN6,hF6⟩
       replace hFF:Ext wr.drew w6:=hFF.trans hF6))
  go_wp2
  go_ret
  exact ⟨_,rfl,hN6,HE2.out.trans (Fr.undrew hFF)⟩
set_option maxHeartbeats 4000000 in
theorem ZlH (u v:Value) (m n g:Nat) (w:World) (hg:Glob w) (hu:Zaf w u m) (hv:Zaf w v n) (hm:wl m≤4294967296) (hn:n < W64) (h0:0 < n) (hle:n < m) (eg:Nat.gcd m n=g) :
 Calls Tryz.prog 167 #[v,u] w (Zba w g):=by
 obtain ⟨A,xs,c,rfl,hc,h1,h2,h3,h4⟩:=hu
 obtain ⟨A2,ys,c2,rfl,hc2,k1,k2,k3,k4⟩:=hv
 have hlx:=Zaz h2 h3
 have hly:=Zaz k2 k3
 rw [h4] at hlx
 rw [k4] at hly
 have hl1:ys.length=1:=by
  have:=ZcB.2 hn
  have:=ZeY h0
  omega
 obtain ⟨y,rfl⟩:∃ y,ys=[y]:=by match ys,hl1 with | [y],_=>exact ⟨y,rfl⟩
 simp at k4
 subst k4
 have HU:Hid (Zaf w (.slice A xs.length c) m):=⟨A,xs,c,rfl,hc,h1,h2,h3,h4⟩
 have HV:Hid (Zaf w (.slice A2 1 c2) y):=⟨A2,[y],c2,rfl,hc2,k1,k2,k3,by simp⟩
 have HX:=zh h1
 have HY:=zh k1
 have Hm:Hid (wl m≤4294967296∧xs.length≤4294967296):=⟨hm,by omega⟩
 have Hn:=zh hn
 have Hle:=zh hle
 have Hy0:=zh h0
 have Hdx:=zh h2
 have Hval:=zh h4
 have Heg:=zh eg
 have HG:=zh hg
 clear hm hn hle h1 k1 k2 k3 h3 h2 hc hc2 hlx hly hl1 h4 eg hg h0
 go_enter Tryz.func167,Tryz.ntmps167
 go_wp2_with fail
 refine (Zbm _ _ y m w HV.out HU.out (by have:=ZcB.2 Hn.out; omega) Hm.out.1).mono ?_
 rintro e w' ⟨rfl,nd,hw'⟩
 obtain ⟨q,hq⟩:∃ q,cmpI y m=q:=⟨_,rfl⟩
 have hq0:q < 0:=by rw [← hq]; exact ZdK.2 Hle.out
 have hq1:decide (q < 0)=true:=by simp; omega
 rw [hq]
 have HE0:Hid (Ext w w'):=hw' ▸ (Fr.refl _ w).drewN nd
 clear hq hw' hq0
 go_wp2_with fail
 refine (ZbG A xs _ c w' rfl (HX.out.ext HE0.out) Hm.out.2).mono ?_
 rintro e w1 ⟨A1,cap1,rfl,hB1,hF1,hA1⟩
 have HS1:Hid (Zan .u64 w1 A1 xs):=hB1.shows
 have HE1:Hid (Ext w w1):=HE0.out.trans hF1
 clear hB1 hF1 hA1
 go_wp2_with fail
 refine (ZbG A2 [y] 1 c2 w1 rfl (HY.out.ext HE1.out) (by omega)).mono ?_
 rintro e w2 ⟨A3,cap3,rfl,hB3,hF3,hA3⟩
 have hy3:Hid (Zan .u64 w2 A3 [y]):=hB3.shows
 obtain ⟨b3,o3,rfl,hb3,hc3⟩:=hy3.out.at (i:=0) (by simp)
 simp at hc3
 have HS2:Hid (Zan .u64 w2 A1 xs):=HS1.out.ext hF3
 have HE2:Hid (Ext w w2):=HE1.out.trans hF3
 have hb3:=zh hb3
 clear hB3 hF3 hA3 hy3 HS1
 obtain ⟨x,ex⟩:∃ x,xs.length=x:=⟨_,rfl⟩
 rw [ex]
 go_wp2_with fail
 obtain ⟨r,er⟩:∃ r,m % y=r:=⟨_,rfl⟩
 go_loopw [5,6] (fun av bv wr=>av=.slice A1 x cap1∧bv=.slice (some ⟨b3,o3,none⟩) 1 cap3∧wr=w2) (fun _ _ _=>0)
 case atStart=>exact ⟨rfl,rfl,rfl⟩
 case round =>
  obtain ⟨rfl,rfl,rfl⟩:=hrel
  go_wp2_with fail
  have HC3:Hid (wr.cell? ⟨b3,o3,none⟩=some (.int .u64 (y:Int))):=hc3
  have hb3':Hid (b3 < wr.heap.size):=hb3.out
  have hzz:Hid (r < W64∧Nat.gcd y r=g∧g < W64):=by
   have h1:=Nat.mod_lt m Hy0.out
   have h2:=Hn.out
   have h3:=Nat.gcd_le_right m Hy0.out
   rw [Heg.out] at h3
   refine ⟨by omega,?_,by omega⟩
   rw [← er,← Heg.out,Nat.gcd_comm y,← Nat.gcd_rec,Nat.gcd_comm]
  go_region_held3 (fun w'=>w'.cell? ⟨b3,o3,none⟩=some (.int .u64 (y:Int)))
   (first | exact HC3.out | exact (Fr.cell (p:=⟨b3,o3,none⟩) (Fr.undrew hFF) hb3'.out (fun f=>f)).trans HC3.out)
   (first
    | (go_at_call 201
       refine (Zbq A1 xs x cap1 y _ ex HS2.out.drew (by have:=Hm.out.2; omega) Hdx.out Hy0.out Hn.out).mono ?_
       rintro e w4 ⟨rfl,nd4,hw4⟩
       rw [Hval.out,er]
       have hFF:Ext wr.drew w4:=hw4 ▸ (Fr.refl _ wr.drew).drewN nd4
       clear hw4)
    | (go_at_call 234
       refine (Zev y r g _ (HG.out.ext (HE2.out.trans (Fr.undrew hFF))) Hn.out hzz.out.1 hzz.out.2.1).mono ?_
       rintro e w5 ⟨rfl,rfl⟩)
    | (go_at_call 200
       refine (ZcC g _ hzz.out.2.2).mono ?_
       rintro e w6 ⟨v6,rfl,hN6,hF6⟩
       replace hFF:Ext wr.drew w6:=hFF.trans hF6))
  go_wp2
  go_ret
  exact ⟨_,rfl,hN6,HE2.out.trans (Fr.undrew hFF)⟩
set_option maxHeartbeats 1000000 in
theorem Zkj (u v:Value) (m:Nat) (w:World) (hu:Zaf w u m) (hv:Zaf w v 0) (hm:wl m≤4294967296):Calls Tryz.prog 167 #[u,v] w (Zba w m):=by
 obtain ⟨A,l,c,rfl⟩:=hu.slice
 obtain ⟨A2,l2,c2,rfl⟩:=hv.slice
 obtain rfl:l2=0:=hv.len0
 have HU:=zh hu
 have HV:=zh hv
 have Hm:=zh hm
 clear hu hv hm
 go_enter Tryz.func167,Tryz.ntmps167
 go_wp2_with fail
 refine (Zbm _ _ m 0 w HU.out HV.out Hm.out (by rw [ZfJ]; omega)).mono ?_
 rintro e w' ⟨rfl,nd,hw'⟩
 obtain ⟨q,hq⟩:∃ q,cmpI (m:Int) ((0:Nat):Int)=q:=⟨_,rfl⟩
 have hq0:(0:Int)≤q:=by rw [← hq]; exact Zdv (Nat.zero_le _)
 have hq1:decide (q < 0)=false:=by simp; omega
 rw [hq]
 have HE0:Hid (Ext w w'):=hw' ▸ (Fr.refl _ w).drewN nd
 clear hq hw' hq0
 go_wp2
 go_ret
 exact ⟨_,rfl,HU.out.ext HE0.out,HE0.out⟩
set_option maxHeartbeats 1000000 in
theorem Zjs (u v:Value) (m:Nat) (w:World) (hu:Zaf w u 0) (hv:Zaf w v m) (h0:0 < m) (hm:wl m≤4294967296):Calls Tryz.prog 167 #[u,v] w (Zba w m):=by
 obtain ⟨A,l,c,rfl⟩:=hu.slice
 obtain ⟨A2,l2,c2,rfl⟩:=hv.slice
 obtain rfl:l=0:=hu.len0
 have HU:=zh hu
 have HV:=zh hv
 have Hm:=zh hm
 have H0:=zh h0
 clear hu hv hm h0
 go_enter Tryz.func167,Tryz.ntmps167
 go_wp2_with fail
 refine (Zbm _ _ 0 m w HU.out HV.out (by rw [ZfJ]; omega) Hm.out).mono ?_
 rintro e w' ⟨rfl,nd,hw'⟩
 obtain ⟨q,hq⟩:∃ q,cmpI ((0:Nat):Int) (m:Int)=q:=⟨_,rfl⟩
 have hq0:q < 0:=by rw [← hq]; exact ZdK.2 H0.out
 have hq1:decide (q < 0)=true:=by simp; omega
 rw [hq]
 have HE0:Hid (Ext w w'):=hw' ▸ (Fr.refl _ w).drewN nd
 clear hq hw' hq0
 go_wp2
 go_ret
 exact ⟨_,rfl,HV.out.ext HE0.out,HE0.out⟩
theorem ZfP (u v:Value) (m n:Nat) (w:World) (hg:Glob w) (hu:Zaf w u m) (hv:Zaf w v n) (hm:wl m≤4294967296) (hn:wl n≤4294967296) (hs:min m n < W64):Calls Tryz.prog 167 #[u,v] w (Zba w (Nat.gcd m n)):=by
 rcases Nat.eq_zero_or_pos n with rfl | n0
 ·rw [Nat.gcd_zero_right]; exact Zkj u v m w hu hv hm
 rcases Nat.eq_zero_or_pos m with rfl | m0
 ·rw [Nat.gcd_zero_left]; exact Zjs u v n w hu hv n0 hn
 rcases Nat.lt_or_ge m n with h | h
 ·exact ZlH v u n m _ w hg hv hu hn (by omega) m0 h (Nat.gcd_comm _ _)
 ·exact ZlG u v m n _ w hg hu hv hm (by omega) n0 h rfl
end Go.Proofs.YthlipnahcbcjkaaGreatDoor

namespace Go.Proofs.YthlipnahcbcjkaaGreatDoor
open Go.RowKit
theorem Buf.openG {k:IntKind} {e:TypeId} {w:World} {A:Option Addr} {cap:Nat} {xs:List Nat} (h:Buf k e w A cap xs) (hne:xs≠[]):∃ b,A=some ⟨b,0,none⟩∧Own k e w b xs∧ZbD e w b cap∧xs.length≤cap∧cap≤maxLen:=by
 rcases h with ⟨_,h,_⟩ | h
 ·exact absurd h hne
 ·exact h
def Zd3 (w wr:World) (G:Nat) (xs ys:List Nat) (Aa:Option Addr) (ca:Nat) (Ab:Option Addr) (cb:Nat):Prop :=
 Buf .u64 88 wr Aa ca xs∧Buf .u64 88 wr Ab cb ys∧Dig W64 xs∧Dig W64 ys∧Trim xs∧Trim ys∧val W64 ys≤val W64 xs∧Nat.gcd (val W64 xs) (val W64 ys)=G∧Ext w wr ∧
  (∀ b,Zad Aa b→w.heap.size≤b)∧(∀ b,Zad Ab b→w.heap.size≤b)∧(∀ b,Zad Aa b→¬ Zad Ab b)∧xs.length≤79
theorem Zd3.len {w wr:World} {G:Nat} {xs ys:List Nat} {Aa:Option Addr} {ca:Nat} {Ab:Option Addr} {cb:Nat} (h:Zd3 w wr G xs ys Aa ca Ab cb):ys.length≤xs.length:=by
 obtain ⟨_,_,h3,h4,h5,h6,h7,_⟩:=h
 rcases Nat.lt_or_ge xs.length ys.length with k | k
 ·have:=ZdG Zai h3 h6 k; omega
 ·exact k
theorem Buf.natIs {w:World} {A:Option Addr} {cap:Nat} {xs:List Nat} (h:Buf .u64 88 w A cap xs) (hd:Dig W64 xs) (ht:Trim xs):Zaf w (.slice A xs.length cap) (val W64 xs) :=
 ⟨A,xs,cap,rfl,h.len,h.shows,hd,ht,rfl⟩
theorem Zd3.div {w wr w1 w2:World} {G:Nat} {xs ys zs:List Nat} {Aa:Option Addr} {ca:Nat} {Ab:Option Addr} {cb:Nat} {Ac:Option Addr} {cc:Nat} (h:Zd3 w wr G xs ys Aa ca Ab cb) (h0:0 < val W64 ys) (Q:Ext wr w1)
 (dz:Dig W64 zs) (tz:Trim zs) (hz:val W64 zs=val W64 xs % val W64 ys) (hB:Buf .u64 88 w2 Ac cc zs) (hE2:Ext w1 w2) (hA:∀ b,Zad Ac b→w1.heap.size≤b):Zd3 w w2 G ys zs Ab cb Ac cc:=by
 have hlen:=h.len
 obtain ⟨h1,h2,h3,h4,h5,h6,h7,h8,h9,h10,h11,h12,h13⟩:=h
 have hlt:=Nat.mod_lt (val W64 xs) h0
 refine ⟨h2.ext (Q.trans hE2),hB,h4,dz,h6,tz,by omega,?_,h9.trans (Q.trans hE2),h11,fun b hb=>?_,fun b hb hb2=>?_,by omega⟩
 ·rw [hz,← h8,Nat.gcd_comm (val W64 ys),← Nat.gcd_rec,Nat.gcd_comm]
 ·have:=hA b hb; have:=Q.size; have:=h9.size; omega
 ·have k1:=h2.lt hb; have k2:=hA b hb2; have:=Q.size; omega
def Zf8 (w wr:World) (xs ys:List Nat) (bA ca:Nat) (Ab:Option Addr) (cb j gs:Nat) (cs:Array Value):Prop :=
 Own .u64 88 wr bA xs∧ZbD 88 wr bA ca∧Buf .u64 88 wr Ab cb (ys ++ List.replicate j 0)∧(∀ b,Zad Ab b→w.heap.size≤b∧b≠bA∧b≠gs)∧Blk 258 wr gs cs∧Ext w wr∧w.heap.size≤bA∧gs≠bA∧w.heap.size≤gs
theorem Zf8.next {w wr w3:World} {xs ys:List Nat} {bA ca:Nat} {Ab A3:Option Addr} {cb c3 j gs:Nat} {cs:Array Value} {o:Obj} (h:Zf8 w wr xs ys bA ca Ab cb j gs cs) (hB:Buf .u64 88 w3 A3 c3 (ys ++ List.replicate j 0 ++ [0])) (hF:Fr (Zad Ab) (wr.alloc o) w3) (hA:∀ b,Zad A3 b→Zad Ab b∨b=(wr.alloc o).heap.size):Zf8 w w3 xs ys bA ca A3 c3 (j + 1) gs cs:=by
 obtain ⟨h1,h2,h3,h4,h5,h6,h7,h8,h9⟩:=h
 have hF':Fr (Zad Ab) wr w3:=((Fr.refl (Zad Ab) wr).alloc o).trans hF
 have l1:=h1.lt
 have l5:=h5.lt
 refine ⟨h1.fr hF' (fun hb=>(h4 _ hb).2.1 rfl),h2.fr hF' (fun hb=>(h4 _ hb).2.1 rfl),by rw [List.replicate_succ',← List.append_assoc]; exact hB,fun b hb=>?_,h5.fr hF' (fun hb=>(h4 _ hb).2.2 rfl),h6.next hF' (fun i hi hb=>by have:=(h4 i hb).1; omega),h7,h8,h9⟩
 rcases hA b hb with k | k
 ·exact h4 b k
 ·have:=h6.size
  simp at k
  exact ⟨by omega,by omega,by omega⟩
theorem Buf.takeG {k:IntKind} {e:TypeId} {w:World} {A:Option Addr} {cap:Nat} {xs:List Nat} (h:Buf k e w A cap xs) (n:Nat):Buf k e w A cap (xs.take n):=by
 rcases h with ⟨h1,rfl,h3⟩ | ⟨b,h1,h2,h3,h4,h5⟩
 ·exact Or.inl ⟨h1,by simp,h3⟩
 ·exact Or.inr ⟨b,h1,h2.take n,h3,by rw [List.length_take]; omega,h5⟩
set_option maxHeartbeats 4000000 in
theorem Zkl (u v:Value) (m n g:Nat) (w:World) (hg:Glob w) (hu:Zaf w u m) (hv:Zaf w v n) (hm:wl m≤79) (hn:W64≤n) (hle:n≤m) (eg:Nat.gcd m n=g) :
 Calls Tryz.prog 167 #[u,v] w (Zba w g):=by
 have hn79:wl n≤79:=Nat.le_trans (Za3 hle) hm
 obtain ⟨A,xs,c,rfl,hc,h1,h2,h3,h4⟩:=hu
 obtain ⟨A2,ys,c2,rfl,hc2,k1,k2,k3,k4⟩:=hv
 have hlx:=Zaz h2 h3
 have hly:=Zaz k2 k3
 rw [h4] at hlx
 rw [k4] at hly
 have hy2:2≤ys.length:=by
  rcases Nat.lt_or_ge ys.length 2 with k | k
  ·have:=ZcB.1 (show wl n≤1 by omega); omega
  ·exact k
 have HU:Hid (Zaf w (.slice A xs.length c) m):=⟨A,xs,c,rfl,hc,h1,h2,h3,h4⟩
 have HV:Hid (Zaf w (.slice A2 ys.length c2) n):=⟨A2,ys,c2,rfl,hc2,k1,k2,k3,k4⟩
 have HX:=zh h1
 have HY:=zh k1
 have Hle:=zh hle
 have Hdx:=zh h2
 have Hdy:=zh k2
 have Htx:=zh h3
 have Hty:=zh k3
 have Hvx:=zh h4
 have Hvy:=zh k4
 have Heg:=zh eg
 have HG:=zh hg
 have Hm:=zh hm
 have Hn:=zh hn79
 have hxl:xs.length≤79:=by omega
 have hyl:ys.length≤79:=by omega
 clear hm hn hle h1 k1 k2 k3 h3 h2 hc hc2 hlx hly h4 k4 eg hg hn79
 go_enter Tryz.func167,Tryz.ntmps167
 go_wp2_with fail
 refine (Zbm _ _ m n w HU.out HV.out (by have:=Hm.out; omega) (by have:=Hn.out; omega)).mono ?_
 rintro e w' ⟨rfl,nd,hw'⟩
 obtain ⟨q,hq⟩:∃ q,cmpI m n=q:=⟨_,rfl⟩
 have hq0:(0:Int)≤q:=by rw [← hq]; exact Zdv Hle.out
 have hq1:decide (q < 0)=false:=by simp; omega
 rw [hq]
 have HE0:Hid (Ext w w'):=hw' ▸ (Fr.refl _ w).drewN nd
 clear hq hw' hq0
 have hyne:((ys.length:Int) == 0)=false:=by rw [beq_eq_false_iff_ne]; omega
 go_wp2_with fail
 refine (ZbG A xs _ c w' rfl (HX.out.ext HE0.out) (by omega)).mono ?_
 rintro e w1 ⟨A1,cap1,rfl,hB1,hF1,hA1⟩
 have HB1:=zh hB1
 have HA1:Hid (∀ b,Zad A1 b→w.heap.size≤b):=fun b hb=>Nat.le_trans HE0.out.size (hA1 b hb)
 have HE1:Hid (Ext w w1):=HE0.out.trans hF1
 clear hB1 hF1 hA1
 go_wp2_with fail
 refine (ZbG A2 ys _ c2 w1 rfl (HY.out.ext HE1.out) (by omega)).mono ?_
 rintro e w2 ⟨A3,cap3,rfl,hB3,hF3,hA3⟩
 have HS0:Hid (Zd3 w w2 g xs ys A1 cap1 A3 cap3):=⟨HB1.out.ext hF3,hB3,Hdx.out,Hdy.out,Htx.out,Hty.out,by rw [Hvx.out,Hvy.out]; exact Hle.out,by rw [Hvx.out,Hvy.out]; exact Heg.out,HE1.out.trans hF3,HA1.out,fun b hb=>Nat.le_trans HE1.out.size (hA3 b hb),fun b hb hb2=>by
  have k1:=HB1.out.lt hb
  have k2:=hA3 b hb2
  omega,hxl⟩
 clear hB3 hF3 hA3 HB1 HA1 HE1 HE0 HX HY HU HV Hdx Hdy Htx Hty Hle Heg Hvx Hvy Hm Hn hyne hq1
 go_wp2_with fail
 go_loopg [5,6,7,8,9] (val W64 xs + val W64 ys) (fun k av bv _ _ _ wr=>∃ (xs ys:List Nat) (Aa:Option Addr) (ca:Nat) (Ab:Option Addr) (cb:Nat),k=val W64 xs + val W64 ys∧av=.slice Aa xs.length ca∧bv=.slice Ab ys.length cb∧Hid (Zd3 w wr g xs ys Aa ca Ab cb))
 case atStart=>exact ⟨xs,ys,A1,cap1,A3,cap3,rfl,rfl,rfl,HS0⟩
 case round =>
  clear HS0 hy2 hxl hyl
  obtain ⟨xs,ys,Aa,ca,Ab,cb,hk,rfl,rfl,hS⟩:=hrel
  have HK:=zh hk
  clear hk
  have hlen:=hS.out.len
  have hx79:=hS.out.2.2.2.2.2.2.2.2.2.2.2.2
  by_cases h1:1 < ys.length
  ·obtain ⟨bA,rfl,hOA,hCA,hcA,hcAm⟩:=hS.out.1.openG (by intro e; rw [e] at hlen; simp at hlen; rw [hlen] at h1; simp at h1)
   obtain ⟨bB,rfl,hOB,hCB,hcB,hcBm⟩:=hS.out.2.1.openG (by intro e; rw [e] at h1; simp at h1)
   have HSim:=zh (ZgU bA bB ca cb xs ys wr hOA hOB hS.out.2.2.1 hS.out.2.2.2.1 hS.out.2.2.2.2.1 hlen (by omega) hS.out.2.2.2.2.2.2.1 (by omega))
   have hvy:0 < val W64 ys:=ZdV hS.out.2.2.2.2.2.1 Zai (by intro e; rw [e] at h1; simp at h1)
   have HVy:=zh hvy
   have HNA:=zh (hS.out.1.natIs hS.out.2.2.1 hS.out.2.2.2.2.1)
   have HNB:=zh (hS.out.2.1.natIs hS.out.2.2.2.1 hS.out.2.2.2.2.2.1)
   have hwx:wl (val W64 xs)≤79:=by rw [← Zaz hS.out.2.2.1 hS.out.2.2.2.2.1]; exact hx79
   have hwy:wl (val W64 ys)≤79:=by rw [← Zaz hS.out.2.2.2.1 hS.out.2.2.2.2.2.1]; omega
   have HWx:=zh hwx
   have HWy:=zh hwy
   have HOA:=zh hOA
   have HOB:=zh hOB
   have HCA:=zh hCA
   have HCB:=zh hCB
   unfold Zeg Za8 at HSim
   clear hOA hOB hCA hCB hvy hwx hwy
   go_wp2_with fail
   refine HSim.out.mono ?_
   rintro e w1 ⟨u0,u1,v0,v1,odd,rfl,b0,b1,b2,b3,hSt,hF1⟩
   have HF1:=zh hF1
   have HSt:=zh hSt
   have Hb:=zh (And.intro b0 (And.intro b1 (And.intro b2 b3)))
   clear hF1 hSt b0 b1 b2 b3 HSim
   by_cases hv:v0=0
   ·subst hv
    go_wp2_with fail
    generalize hwb:World.alloc w1 _=wb
    have HEb:Hid (Ext wr wb):=hwb ▸ HF1.out.alloc _
    clear hwb HF1
    refine (Zc7 _ _ _ _ _ (HNA.out.ext HEb.out) (HNB.out.ext HEb.out) (by have:=HWx.out; omega) (by have:=HWy.out; omega) HVy.out).mono ?_
    rintro e w2 ⟨qv,rv,rfl,hNq,hNr,hF2⟩
    obtain ⟨Aq,lq,cq,rfl⟩:=hNq.slice
    obtain ⟨Ar,zs,cr,rfl,hcr,hSr,hdz,htz,hvz⟩:=hNr
    have HE2:=zh (HEb.out.trans hF2)
    have HSr:=zh hSr
    have HDz:=zh hdz
    have HTz:=zh htz
    have HVz:=zh hvz
    have hzl:zs.length≤79:=by
     rw [Zaz hdz htz,hvz]
     have:wl (val W64 xs % val W64 ys)≤wl (val W64 xs):=Za3 (Nat.mod_le _ _)
     have:=HWx.out; omega
    clear hNq hSr hdz htz hvz hcr hF2 HEb
    go_wp2_with fail
    refine (ZbG Ar zs _ cr w2 rfl HSr.out (by omega)).mono ?_
    rintro e w3 ⟨Ac,cc,rfl,hB3,hF3,hA3⟩
    have HNew:=zh (hS.out.div HVy.out HE2.out HDz.out HTz.out HVz.out hB3 hF3 hA3)
    have HMs:Hid (val W64 ys + val W64 zs < val W64 xs + val W64 ys):=by
     have h1:=Nat.mod_lt (val W64 xs) HVy.out
     have h2:=hS.out.2.2.2.2.2.2.1
     have h3:=HVz.out
     unfold Hid; omega
    clear hB3 hF3 hA3 hS HNA HNB HOA HOB HCA HCB
    go_wp2
    go_roundg (val W64 ys + val W64 zs)
    case measure=>rw [HK.out]; exact HMs.out
    case rel=>exact ⟨ys,zs,_,cb,Ac,cc,rfl,rfl,rfl,HNew⟩
   ·have hv0:((v0:Int) == 0)=false:=by simp; omega
    obtain ⟨r0,r1,q1,q2,q3,q4⟩:=HSt.out.pair hv
    have HQ:=zh (And.intro q1 (And.intro q2 (And.intro q3 q4)))
    have hAB:bA≠bB:=fun e=>hS.out.2.2.2.2.2.2.2.2.2.2.2.1 bA ⟨_,rfl,rfl⟩ ⟨_,rfl,by simp [e]⟩
    clear q1 q2 q3 q4 hv
    go_wp2_with fail
    generalize hwb:World.alloc w1 _=wb
    have hlA:=HOA.out.lt
    have hlB:=HOB.out.lt
    have hs1:=HF1.out.size
    have HPd:Hid (Zf8 w wb xs ys bA ca (some ⟨bB,0,none⟩) cb 0 w1.heap.size #[.int .u64 (u0:Int), .int .u64 (u1:Int), .int .u64 (v0:Int), .int .u64 (v1:Int), .bool odd]):=by
     have hEb:Ext wr wb:=hwb ▸ HF1.out.alloc _
     refine ⟨HOA.out.ext hEb,HCA.out.fr hEb (fun f=>f),by rw [List.replicate_zero,List.append_nil]; exact hS.out.2.1.ext hEb,fun b hb=>?_,hwb ▸ Blk.new _ _ _,hS.out.2.2.2.2.2.2.2.2.1.trans hEb,hS.out.2.2.2.2.2.2.2.2.2.1 bA ⟨_,rfl,rfl⟩,by omega,?_⟩
     ·obtain ⟨a,ha,rfl⟩:=hb
      injection ha with ha; subst ha
      exact ⟨hS.out.2.2.2.2.2.2.2.2.2.2.1 bB ⟨_,rfl,rfl⟩,fun e=>hAB e.symm,by show bB≠_; omega⟩
     ·have:=hS.out.2.2.2.2.2.2.2.2.1.size; omega
    clear hwb
    generalize w1.heap.size=gs at *
    go_loopw [6] (fun bv wq=>∃ (j:Nat) (A6:Option Addr) (c6:Nat),ys.length + j≤xs.length∧bv=.slice A6 (ys.length + j) c6∧Hid (Zf8 w wq xs ys bA ca A6 c6 j gs #[.int .u64 (u0:Int), .int .u64 (u1:Int), .int .u64 (v0:Int), .int .u64 (v1:Int), .bool odd])) (fun bv _=>match bv with | .slice _ k _=>xs.length - k | _=>0)
    case atStart=>exact ⟨0,_,cb,by omega,rfl,HPd⟩
    case round =>
     clear HPd
     obtain ⟨j,A6,c6,hj,rfl,hP⟩:=hrel
     by_cases hjl:ys.length + j < xs.length
     ·have hSh:Hid (Zan .u64 (wr.alloc (.cells #[.int .u64 0] 88)) (some ⟨wr.heap.size,0,none⟩) [0]):=(Own.new wr 88 .u64 [0] []).shows0
      have HLj:Hid ((ys ++ List.replicate j 0).length=ys.length + j):=by unfold Hid; simp
      go_wp2_with (at_builtin; refine Hid.out ?_)
      refine zh ?_
      refine Zay rfl _ _ _ rfl _ .u64 8 Tryz.underlying93 Zcq A6 (some ⟨wr.heap.size,0,none⟩) (ys.length + j) 1 c6 1 rfl rfl (ys ++ List.replicate j 0) [0] HLj.out rfl (hP.out.2.2.1.ext ((Fr.refl _ _).alloc _)) hSh.out (by simp only [maxLen]; omega) (by omega) ?_
      intro A7 c7 w3 hB3 hF3 hA3
      have HNew:=zh (hP.out.next hB3 hF3 hA3)
      clear hB3 hF3 hA3 hSh HLj
      go_wp2
      go_roundw
      case rel=>exact ⟨j + 1,A7,c7,by omega,by rw [Nat.add_assoc],HNew⟩
      case measure=>simp; omega
     ·have ej:ys.length + j=xs.length:=by omega
      have hpos:0 < xs.length:=by omega
      have hne6:ys ++ List.replicate j 0≠[]:=fun e=>by have:=congrArg List.length e; rw [List.length_append,List.length_nil] at this; omega
      obtain ⟨bC,rfl,hOC,hCC,hcC,hcCm⟩:=hP.out.2.2.1.openG hne6
      have hbC:=hP.out.2.2.2.1 bC ⟨_,rfl,rfl⟩
      have hlC:(ys ++ List.replicate j 0).length=xs.length:=by simp; omega
      have hvC:val W64 (ys ++ List.replicate j 0)=val W64 ys:=by rw [Zbn,ZcT]; simp
      have hdC:Dig W64 (ys ++ List.replicate j 0):=hS.out.2.2.2.1.append (Dig.replicate Zai _)
      have hxl:=Za6 hS.out.2.2.1
      have hyx:=hS.out.2.2.2.2.2.2.1
      have HAp:Hid (Calls Tryz.prog 233 #[.agg #[.int .u64 (u0:Int), .int .u64 (u1:Int), .int .u64 (v0:Int), .int .u64 (v1:Int), .bool odd], .slice (some ⟨bA,0,none⟩) xs.length ca, .slice (some ⟨bC,0,none⟩) (ys.length + j) c6] wr (ZdO bA bC xs.length r0 r1 wr)):=by
       obtain ⟨q1,q2,q3,q4⟩:=HQ.out
       obtain ⟨k0,k1,k2,k3⟩:=Hb.out
       unfold Hid
       rw [ej]
       rw [← hvC] at q4
       cases odd with
       | false =>
         simp only [Bool.false_eq_true,if_false] at q4
         exact ZiF bA bC xs.length ca c6 u0 u1 v0 v1 r0 r1 xs _ wr rfl hlC hP.out.1 hOC (fun e=>hbC.2.1 e.symm) hS.out.2.2.1 hdC (by omega) k0 k1 k2 k3 q4.1 q4.2 (by omega) (by omega)
       | true =>
         simp only [if_true] at q4
         exact ZjN bA bC xs.length ca c6 u0 u1 v0 v1 r0 r1 xs _ wr rfl hlC hP.out.1 hOC (fun e=>hbC.2.1 e.symm) hS.out.2.2.1 hdC (by omega) k0 k1 k2 k3 q4.1 q4.2 (by omega) (by omega)
      have s0:wr.cell? ⟨gs,0,none⟩=some (.int .u64 (u0:Int)):=hP.out.2.2.2.2.1.cell 0
      have s1:wr.cell? ⟨gs,1,none⟩=some (.int .u64 (u1:Int)):=hP.out.2.2.2.2.1.cell 1
      have s2:wr.cell? ⟨gs,2,none⟩=some (.int .u64 (v0:Int)):=hP.out.2.2.2.2.1.cell 2
      have s3:wr.cell? ⟨gs,3,none⟩=some (.int .u64 (v1:Int)):=hP.out.2.2.2.2.1.cell 3
      have s4:wr.cell? ⟨gs,4,none⟩=some (.bool odd):=hP.out.2.2.2.2.1.cell 4
      have HCC:=zh hCC
      have HLC:=zh hlC
      have Hej:=zh ej
      clear hOC hCC hlC hvC hdC hxl hyx hne6 ej
      go_wp2_with fail
      refine HAp.out.mono ?_
      rintro e w3 ⟨zs,zt,rfl,hOA3,hOC3,hr0,hr1,hd1,hd2,hl1,hl2,hSA,hSC,hF3⟩
      have hej:=Hej.out
      have HTr1:=zh (ZbA _ zs xs.length ca w3 hl1 hOA3.shows0 (by omega) (by omega))
      have HTr2:=zh (ZbA _ zt (ys.length + j) c6 w3 (by omega) hOC3.shows0 (by have:=HLC.out; omega) (by omega))
      have HNew:Hid (Zd3 w w3 g (ZaY zs) (ZaY zt) (some ⟨bA,0,none⟩) ca (some ⟨bC,0,none⟩) c6):=by
       obtain ⟨q1,q2,q3,q4⟩:=HQ.out
       have t1:=Zbd zs
       have t2:=ZdY zs zs.length
       refine ⟨Buf.takeG (Or.inr ⟨bA,rfl,hOA3,hSA _ hP.out.2.1,by omega,hcAm⟩) _,Buf.takeG (Or.inr ⟨bC,rfl,hOC3,hSC _ HCC.out,by have:=HLC.out; omega,hcCm⟩) _,Zc2 hd1,Zc2 hd2,ZcA _,ZcA _,?_,?_,?_,fun b hb=>?_,fun b hb=>?_,fun b hb hb2=>?_,by omega⟩
       ·rw [Za5,Za5,hr0,hr1]; omega
       ·rw [Za5,Za5,hr0,hr1,q3]; exact hS.out.2.2.2.2.2.2.2.1
       ·refine hP.out.2.2.2.2.2.1.next hF3 (fun i hi e=>?_)
        rcases e with e | e
        ·have:=hP.out.2.2.2.2.2.2.1; omega
        ·have:=hbC.1; omega
       ·obtain ⟨a,ha,rfl⟩:=hb
        injection ha with ha; subst ha
        exact hP.out.2.2.2.2.2.2.1
       ·obtain ⟨a,ha,rfl⟩:=hb
        injection ha with ha; subst ha
        exact hbC.1
       ·obtain ⟨a,ha,rfl⟩:=hb
        injection ha with ha; subst ha
        obtain ⟨a',ha',e⟩:=hb2
        injection ha' with ha'; subst ha'
        exact hbC.2.1 e
      have HMs:Hid (val W64 (ZaY zs) + val W64 (ZaY zt) < val W64 xs + val W64 ys):=by
       obtain ⟨q1,q2,q3,q4⟩:=HQ.out
       have h2:=hS.out.2.2.2.2.2.2.1
       unfold Hid
       rw [Za5,Za5,hr0,hr1]; omega
      have Htl1:=zh (Zbd zs)
      have Htl2:=zh (Zbd zt)
      clear hOA3 hOC3 hr0 hr1 hd1 hd2 hSA hSC hF3 hej hl1 hl2
      go_wp2_with fail
      refine HTr1.out.mono ?_
      rintro e w4 ⟨rfl,rfl⟩
      go_wp2_with fail
      refine HTr2.out.mono ?_
      rintro e w4 ⟨rfl,rfl⟩
      go_wp2
      go_roundg (val W64 (ZaY zs) + val W64 (ZaY zt))
      case measure=>rw [HK.out]; exact HMs.out
      case rel=>exact ⟨ZaY zs,ZaY zt,_,ca,_,c6,rfl,by rw [Htl1.out],by rw [Htl2.out],HNew⟩
  ·have h1':decide ((1:Int) < (ys.length:Int))=false:=by simp; omega
   by_cases h0:ys=[]
   ·subst h0
    have HN:Hid (Zaf wr (.slice Aa xs.length ca) g):=by
     have k1:=hS.out.1.natIs hS.out.2.2.1 hS.out.2.2.2.2.1
     have k2:=hS.out.2.2.2.2.2.2.2.1
     rw [Zc1,Nat.gcd_zero_right] at k2
     rw [k2] at k1
     exact k1
    have HE:Hid (Ext w wr):=hS.out.2.2.2.2.2.2.2.2.1
    clear hS h1 h1' hlen
    go_wp2
    go_ret
    exact ⟨_,rfl,HN.out,HE.out⟩
   ·obtain ⟨y,rfl⟩:∃ y,ys=[y]:=by
     match ys,(by have:=List.length_pos_iff.2 h0; omega:ys.length=1) with
     | [y],_=>exact ⟨y,rfl⟩
    obtain ⟨b3,rfl,hOB,_⟩:=hS.out.2.1.openG h0
    have hc3:=hOB.cell (i:=0) (by simp)
    simp at hc3
    have hb3:=zh hOB.lt
    have HE2:Hid (Ext w wr):=hS.out.2.2.2.2.2.2.2.2.1
    have HS2:Hid (Zan .u64 wr Aa xs):=hS.out.1.shows
    have Hdx:=zh hS.out.2.2.1
    have hyW:y < W64:=hS.out.2.2.2.1 y (by simp)
    have hy0:0 < y:=by
     have:=hS.out.2.2.2.2.2.1 0 rfl
     simp at this; omega
    have hgc:=hS.out.2.2.2.2.2.2.2.1
    simp only [ZcK,Zc1,Nat.mul_zero,Nat.add_zero] at hgc
    obtain ⟨r,er⟩:∃ r,val W64 xs % y=r:=⟨_,rfl⟩
    have hzz:Hid (r < W64∧Nat.gcd y r=g∧g < W64):=by
     have k1:=Nat.mod_lt (val W64 xs) hy0
     have k3:=Nat.gcd_le_right (val W64 xs) hy0
     rw [hgc] at k3
     refine ⟨by omega,?_,by omega⟩
     rw [← er,← hgc,Nat.gcd_comm y,← Nat.gcd_rec,Nat.gcd_comm]
    obtain ⟨x,ex⟩:∃ x,xs.length=x:=⟨_,rfl⟩
    rw [ex] at hx79 ⊢
    have HC3:Hid (wr.cell? ⟨b3,0,none⟩=some (.int .u64 (y:Int))):=hc3
    have Hy0:=zh hy0
    have Hn:=zh hyW
    have Her:=zh er
    have Hex:=zh ex
    clear hS hOB hgc er ex h0 h1 h1' hlen hy0 hyW
    go_wp2_with fail
    go_region_held3 (fun w'=>w'.cell? ⟨b3,0,none⟩=some (.int .u64 (y:Int)))
     (first | exact HC3.out | exact (Fr.cell (p:=⟨b3,0,none⟩) (Fr.undrew hFF) hb3.out (fun f=>f)).trans HC3.out)
     (first
      | (go_at_call 201
         refine (Zbq Aa xs x ca y _ Hex.out HS2.out.drew (by have:=Hex.out; omega) Hdx.out Hy0.out Hn.out).mono ?_
         rintro e w4 ⟨rfl,nd4,hw4⟩
         rw [Her.out]
         have hFF:Ext wr.drew w4:=hw4 ▸ (Fr.refl _ wr.drew).drewN nd4
         clear hw4)
      | (go_at_call 234
         refine (Zev y r g _ (HG.out.ext (HE2.out.trans (Fr.undrew hFF))) Hn.out hzz.out.1 hzz.out.2.1).mono ?_
         rintro e w5 ⟨rfl,rfl⟩)
      | (go_at_call 200
         refine (ZcC g _ hzz.out.2.2).mono ?_
         rintro e w6 ⟨v6,rfl,hN6,hF6⟩
         replace hFF:Ext wr.drew w6:=hFF.trans hF6))
    go_wp2
    go_ret
    exact ⟨_,rfl,hN6,HE2.out.trans (Fr.undrew hFF)⟩
set_option maxHeartbeats 4000000 in
theorem Zkm (u v:Value) (m n g:Nat) (w:World) (hg:Glob w) (hu:Zaf w u m) (hv:Zaf w v n) (hm:wl m≤79) (hn:W64≤n) (hlt:n < m) (eg:Nat.gcd m n=g) :
 Calls Tryz.prog 167 #[v,u] w (Zba w g):=by
 have hle:n≤m:=by omega
 have hn79:wl n≤79:=Nat.le_trans (Za3 hle) hm
 obtain ⟨A,xs,c,rfl,hc,h1,h2,h3,h4⟩:=hu
 obtain ⟨A2,ys,c2,rfl,hc2,k1,k2,k3,k4⟩:=hv
 have hlx:=Zaz h2 h3
 have hly:=Zaz k2 k3
 rw [h4] at hlx
 rw [k4] at hly
 have hy2:2≤ys.length:=by
  rcases Nat.lt_or_ge ys.length 2 with k | k
  ·have:=ZcB.1 (show wl n≤1 by omega); omega
  ·exact k
 have HU:Hid (Zaf w (.slice A xs.length c) m):=⟨A,xs,c,rfl,hc,h1,h2,h3,h4⟩
 have HV:Hid (Zaf w (.slice A2 ys.length c2) n):=⟨A2,ys,c2,rfl,hc2,k1,k2,k3,k4⟩
 have HX:=zh h1
 have HY:=zh k1
 have Hle:=zh hle
 have Hlt:=zh hlt
 have Hdx:=zh h2
 have Hdy:=zh k2
 have Htx:=zh h3
 have Hty:=zh k3
 have Hvx:=zh h4
 have Hvy:=zh k4
 have Heg:=zh eg
 have HG:=zh hg
 have Hm:=zh hm
 have Hn:=zh hn79
 have hxl:xs.length≤79:=by omega
 have hyl:ys.length≤79:=by omega
 clear hm hn hle hlt h1 k1 k2 k3 h3 h2 hc hc2 hlx hly h4 k4 eg hg hn79
 go_enter Tryz.func167,Tryz.ntmps167
 go_wp2_with fail
 refine (Zbm _ _ n m w HV.out HU.out (by have:=Hn.out; omega) (by have:=Hm.out; omega)).mono ?_
 rintro e w' ⟨rfl,nd,hw'⟩
 obtain ⟨q,hq⟩:∃ q,cmpI n m=q:=⟨_,rfl⟩
 have hq0:q < 0:=by
  have h5:(n:Int) < (m:Int):=by have:=Hlt.out; omega
  rw [← hq]; unfold cmpI; rw [if_pos h5]; omega
 have hq1:decide (q < 0)=true:=by simp; omega
 rw [hq]
 have HE0:Hid (Ext w w'):=hw' ▸ (Fr.refl _ w).drewN nd
 clear hq hw' hq0
 have hyne:((ys.length:Int) == 0)=false:=by rw [beq_eq_false_iff_ne]; omega
 go_wp2_with fail
 refine (ZbG A xs _ c w' rfl (HX.out.ext HE0.out) (by omega)).mono ?_
 rintro e w1 ⟨A1,cap1,rfl,hB1,hF1,hA1⟩
 have HB1:=zh hB1
 have HA1:Hid (∀ b,Zad A1 b→w.heap.size≤b):=fun b hb=>Nat.le_trans HE0.out.size (hA1 b hb)
 have HE1:Hid (Ext w w1):=HE0.out.trans hF1
 clear hB1 hF1 hA1
 go_wp2_with fail
 refine (ZbG A2 ys _ c2 w1 rfl (HY.out.ext HE1.out) (by omega)).mono ?_
 rintro e w2 ⟨A3,cap3,rfl,hB3,hF3,hA3⟩
 have HS0:Hid (Zd3 w w2 g xs ys A1 cap1 A3 cap3):=⟨HB1.out.ext hF3,hB3,Hdx.out,Hdy.out,Htx.out,Hty.out,by rw [Hvx.out,Hvy.out]; exact Hle.out,by rw [Hvx.out,Hvy.out]; exact Heg.out,HE1.out.trans hF3,HA1.out,fun b hb=>Nat.le_trans HE1.out.size (hA3 b hb),fun b hb hb2=>by
  have k1:=HB1.out.lt hb
  have k2:=hA3 b hb2
  omega,hxl⟩
 clear hB3 hF3 hA3 HB1 HA1 HE1 HE0 HX HY HU HV Hdx Hdy Htx Hty Hle Heg Hvx Hvy Hm Hn hyne hq1
 go_wp2_with fail
 go_loopg [5,6,7,8,9] (val W64 xs + val W64 ys) (fun k av bv _ _ _ wr=>∃ (xs ys:List Nat) (Aa:Option Addr) (ca:Nat) (Ab:Option Addr) (cb:Nat),k=val W64 xs + val W64 ys∧av=.slice Aa xs.length ca∧bv=.slice Ab ys.length cb∧Hid (Zd3 w wr g xs ys Aa ca Ab cb))
 case atStart=>exact ⟨xs,ys,A1,cap1,A3,cap3,rfl,rfl,rfl,HS0⟩
 case round =>
  clear HS0 hy2 hxl hyl
  obtain ⟨xs,ys,Aa,ca,Ab,cb,hk,rfl,rfl,hS⟩:=hrel
  have HK:=zh hk
  clear hk
  have hlen:=hS.out.len
  have hx79:=hS.out.2.2.2.2.2.2.2.2.2.2.2.2
  by_cases h1:1 < ys.length
  ·obtain ⟨bA,rfl,hOA,hCA,hcA,hcAm⟩:=hS.out.1.openG (by intro e; rw [e] at hlen; simp at hlen; rw [hlen] at h1; simp at h1)
   obtain ⟨bB,rfl,hOB,hCB,hcB,hcBm⟩:=hS.out.2.1.openG (by intro e; rw [e] at h1; simp at h1)
   have HSim:=zh (ZgU bA bB ca cb xs ys wr hOA hOB hS.out.2.2.1 hS.out.2.2.2.1 hS.out.2.2.2.2.1 hlen (by omega) hS.out.2.2.2.2.2.2.1 (by omega))
   have hvy:0 < val W64 ys:=ZdV hS.out.2.2.2.2.2.1 Zai (by intro e; rw [e] at h1; simp at h1)
   have HVy:=zh hvy
   have HNA:=zh (hS.out.1.natIs hS.out.2.2.1 hS.out.2.2.2.2.1)
   have HNB:=zh (hS.out.2.1.natIs hS.out.2.2.2.1 hS.out.2.2.2.2.2.1)
   have hwx:wl (val W64 xs)≤79:=by rw [← Zaz hS.out.2.2.1 hS.out.2.2.2.2.1]; exact hx79
   have hwy:wl (val W64 ys)≤79:=by rw [← Zaz hS.out.2.2.2.1 hS.out.2.2.2.2.2.1]; omega
   have HWx:=zh hwx
   have HWy:=zh hwy
   have HOA:=zh hOA
   have HOB:=zh hOB
   have HCA:=zh hCA
   have HCB:=zh hCB
   unfold Zeg Za8 at HSim
   clear hOA hOB hCA hCB hvy hwx hwy
   go_wp2_with fail
   refine HSim.out.mono ?_
   rintro e w1 ⟨u0,u1,v0,v1,odd,rfl,b0,b1,b2,b3,hSt,hF1⟩
   have HF1:=zh hF1
   have HSt:=zh hSt
   have Hb:=zh (And.intro b0 (And.intro b1 (And.intro b2 b3)))
   clear hF1 hSt b0 b1 b2 b3 HSim
   by_cases hv:v0=0
   ·subst hv
    go_wp2_with fail
    generalize hwb:World.alloc w1 _=wb
    have HEb:Hid (Ext wr wb):=hwb ▸ HF1.out.alloc _
    clear hwb HF1
    refine (Zc7 _ _ _ _ _ (HNA.out.ext HEb.out) (HNB.out.ext HEb.out) (by have:=HWx.out; omega) (by have:=HWy.out; omega) HVy.out).mono ?_
    rintro e w2 ⟨qv,rv,rfl,hNq,hNr,hF2⟩
    obtain ⟨Aq,lq,cq,rfl⟩:=hNq.slice
    obtain ⟨Ar,zs,cr,rfl,hcr,hSr,hdz,htz,hvz⟩:=hNr
    have HE2:=zh (HEb.out.trans hF2)
    have HSr:=zh hSr
    have HDz:=zh hdz
    have HTz:=zh htz
    have HVz:=zh hvz
    have hzl:zs.length≤79:=by
     rw [Zaz hdz htz,hvz]
     have:wl (val W64 xs % val W64 ys)≤wl (val W64 xs):=Za3 (Nat.mod_le _ _)
     have:=HWx.out; omega
    clear hNq hSr hdz htz hvz hcr hF2 HEb
    go_wp2_with fail
    refine (ZbG Ar zs _ cr w2 rfl HSr.out (by omega)).mono ?_
    rintro e w3 ⟨Ac,cc,rfl,hB3,hF3,hA3⟩
    have HNew:=zh (hS.out.div HVy.out HE2.out HDz.out HTz.out HVz.out hB3 hF3 hA3)
    have HMs:Hid (val W64 ys + val W64 zs < val W64 xs + val W64 ys):=by
     have h1:=Nat.mod_lt (val W64 xs) HVy.out
     have h2:=hS.out.2.2.2.2.2.2.1
     have h3:=HVz.out
     unfold Hid; omega
    clear hB3 hF3 hA3 hS HNA HNB HOA HOB HCA HCB
    go_wp2
    go_roundg (val W64 ys + val W64 zs)
    case measure=>rw [HK.out]; exact HMs.out
    case rel=>exact ⟨ys,zs,_,cb,Ac,cc,rfl,rfl,rfl,HNew⟩
   ·have hv0:((v0:Int) == 0)=false:=by simp; omega
    obtain ⟨r0,r1,q1,q2,q3,q4⟩:=HSt.out.pair hv
    have HQ:=zh (And.intro q1 (And.intro q2 (And.intro q3 q4)))
    have hAB:bA≠bB:=fun e=>hS.out.2.2.2.2.2.2.2.2.2.2.2.1 bA ⟨_,rfl,rfl⟩ ⟨_,rfl,by simp [e]⟩
    clear q1 q2 q3 q4 hv
    go_wp2_with fail
    generalize hwb:World.alloc w1 _=wb
    have hlA:=HOA.out.lt
    have hlB:=HOB.out.lt
    have hs1:=HF1.out.size
    have HPd:Hid (Zf8 w wb xs ys bA ca (some ⟨bB,0,none⟩) cb 0 w1.heap.size #[.int .u64 (u0:Int), .int .u64 (u1:Int), .int .u64 (v0:Int), .int .u64 (v1:Int), .bool odd]):=by
     have hEb:Ext wr wb:=hwb ▸ HF1.out.alloc _
     refine ⟨HOA.out.ext hEb,HCA.out.fr hEb (fun f=>f),by rw [List.replicate_zero,List.append_nil]; exact hS.out.2.1.ext hEb,fun b hb=>?_,hwb ▸ Blk.new _ _ _,hS.out.2.2.2.2.2.2.2.2.1.trans hEb,hS.out.2.2.2.2.2.2.2.2.2.1 bA ⟨_,rfl,rfl⟩,by omega,?_⟩
     ·obtain ⟨a,ha,rfl⟩:=hb
      injection ha with ha; subst ha
      exact ⟨hS.out.2.2.2.2.2.2.2.2.2.2.1 bB ⟨_,rfl,rfl⟩,fun e=>hAB e.symm,by show bB≠_; omega⟩
     ·have:=hS.out.2.2.2.2.2.2.2.2.1.size; omega
    clear hwb
    generalize w1.heap.size=gs at *
    go_loopw [6] (fun bv wq=>∃ (j:Nat) (A6:Option Addr) (c6:Nat),ys.length + j≤xs.length∧bv=.slice A6 (ys.length + j) c6∧Hid (Zf8 w wq xs ys bA ca A6 c6 j gs #[.int .u64 (u0:Int), .int .u64 (u1:Int), .int .u64 (v0:Int), .int .u64 (v1:Int), .bool odd])) (fun bv _=>match bv with | .slice _ k _=>xs.length - k | _=>0)
    case atStart=>exact ⟨0,_,cb,by omega,rfl,HPd⟩
    case round =>
     clear HPd
     obtain ⟨j,A6,c6,hj,rfl,hP⟩:=hrel
     by_cases hjl:ys.length + j < xs.length
     ·have hSh:Hid (Zan .u64 (wr.alloc (.cells #[.int .u64 0] 88)) (some ⟨wr.heap.size,0,none⟩) [0]):=(Own.new wr 88 .u64 [0] []).shows0
      have HLj:Hid ((ys ++ List.replicate j 0).length=ys.length + j):=by unfold Hid; simp
      go_wp2_with (at_builtin; refine Hid.out ?_)
      refine zh ?_
      refine Zay rfl _ _ _ rfl _ .u64 8 Tryz.underlying93 Zcq A6 (some ⟨wr.heap.size,0,none⟩) (ys.length + j) 1 c6 1 rfl rfl (ys ++ List.replicate j 0) [0] HLj.out rfl (hP.out.2.2.1.ext ((Fr.refl _ _).alloc _)) hSh.out (by simp only [maxLen]; omega) (by omega) ?_
      intro A7 c7 w3 hB3 hF3 hA3
      have HNew:=zh (hP.out.next hB3 hF3 hA3)
      clear hB3 hF3 hA3 hSh HLj
      go_wp2
      go_roundw
      case rel=>exact ⟨j + 1,A7,c7,by omega,by rw [Nat.add_assoc],HNew⟩
      case measure=>simp; omega
     ·have ej:ys.length + j=xs.length:=by omega
      have hpos:0 < xs.length:=by omega
      have hne6:ys ++ List.replicate j 0≠[]:=fun e=>by have:=congrArg List.length e; rw [List.length_append,List.length_nil] at this; omega
      obtain ⟨bC,rfl,hOC,hCC,hcC,hcCm⟩:=hP.out.2.2.1.openG hne6
      have hbC:=hP.out.2.2.2.1 bC ⟨_,rfl,rfl⟩
      have hlC:(ys ++ List.replicate j 0).length=xs.length:=by simp; omega
      have hvC:val W64 (ys ++ List.replicate j 0)=val W64 ys:=by rw [Zbn,ZcT]; simp
      have hdC:Dig W64 (ys ++ List.replicate j 0):=hS.out.2.2.2.1.append (Dig.replicate Zai _)
      have hxl:=Za6 hS.out.2.2.1
      have hyx:=hS.out.2.2.2.2.2.2.1
      have HAp:Hid (Calls Tryz.prog 233 #[.agg #[.int .u64 (u0:Int), .int .u64 (u1:Int), .int .u64 (v0:Int), .int .u64 (v1:Int), .bool odd], .slice (some ⟨bA,0,none⟩) xs.length ca, .slice (some ⟨bC,0,none⟩) (ys.length + j) c6] wr (ZdO bA bC xs.length r0 r1 wr)):=by
       obtain ⟨q1,q2,q3,q4⟩:=HQ.out
       obtain ⟨k0,k1,k2,k3⟩:=Hb.out
       unfold Hid
       rw [ej]
       rw [← hvC] at q4
       cases odd with
       | false =>
         simp only [Bool.false_eq_true,if_false] at q4
         exact ZiF bA bC xs.length ca c6 u0 u1 v0 v1 r0 r1 xs _ wr rfl hlC hP.out.1 hOC (fun e=>hbC.2.1 e.symm) hS.out.2.2.1 hdC (by omega) k0 k1 k2 k3 q4.1 q4.2 (by omega) (by omega)
       | true =>
         simp only [if_true] at q4
         exact ZjN bA bC xs.length ca c6 u0 u1 v0 v1 r0 r1 xs _ wr rfl hlC hP.out.1 hOC (fun e=>hbC.2.1 e.symm) hS.out.2.2.1 hdC (by omega) k0 k1 k2 k3 q4.1 q4.2 (by omega) (by omega)
      have s0:wr.cell? ⟨gs,0,none⟩=some (.int .u64 (u0:Int)):=hP.out.2.2.2.2.1.cell 0
      have s1:wr.cell? ⟨gs,1,none⟩=some (.int .u64 (u1:Int)):=hP.out.2.2.2.2.1.cell 1
      have s2:wr.cell? ⟨gs,2,none⟩=some (.int .u64 (v0:Int)):=hP.out.2.2.2.2.1.cell 2
      have s3:wr.cell? ⟨gs,3,none⟩=some (.int .u64 (v1:Int)):=hP.out.2.2.2.2.1.cell 3
      have s4:wr.cell? ⟨gs,4,none⟩=some (.bool odd):=hP.out.2.2.2.2.1.cell 4
      have HCC:=zh hCC
      have HLC:=zh hlC
      have Hej:=zh ej
      clear hOC hCC hlC hvC hdC hxl hyx hne6 ej
      go_wp2_with fail
      refine HAp.out.mono ?_
      rintro e w3 ⟨zs,zt,rfl,hOA3,hOC3,hr0,hr1,hd1,hd2,hl1,hl2,hSA,hSC,hF3⟩
      have hej:=Hej.out
      have HTr1:=zh (ZbA _ zs xs.length ca w3 hl1 hOA3.shows0 (by omega) (by omega))
      have HTr2:=zh (ZbA _ zt (ys.length + j) c6 w3 (by omega) hOC3.shows0 (by have:=HLC.out; omega) (by omega))
      have HNew:Hid (Zd3 w w3 g (ZaY zs) (ZaY zt) (some ⟨bA,0,none⟩) ca (some ⟨bC,0,none⟩) c6):=by
       obtain ⟨q1,q2,q3,q4⟩:=HQ.out
       have t1:=Zbd zs
       have t2:=ZdY zs zs.length
       refine ⟨Buf.takeG (Or.inr ⟨bA,rfl,hOA3,hSA _ hP.out.2.1,by omega,hcAm⟩) _,Buf.takeG (Or.inr ⟨bC,rfl,hOC3,hSC _ HCC.out,by have:=HLC.out; omega,hcCm⟩) _,Zc2 hd1,Zc2 hd2,ZcA _,ZcA _,?_,?_,?_,fun b hb=>?_,fun b hb=>?_,fun b hb hb2=>?_,by omega⟩
       ·rw [Za5,Za5,hr0,hr1]; omega
       ·rw [Za5,Za5,hr0,hr1,q3]; exact hS.out.2.2.2.2.2.2.2.1
       ·refine hP.out.2.2.2.2.2.1.next hF3 (fun i hi e=>?_)
        rcases e with e | e
        ·have:=hP.out.2.2.2.2.2.2.1; omega
        ·have:=hbC.1; omega
       ·obtain ⟨a,ha,rfl⟩:=hb
        injection ha with ha; subst ha
        exact hP.out.2.2.2.2.2.2.1
       ·obtain ⟨a,ha,rfl⟩:=hb
        injection ha with ha; subst ha
        exact hbC.1
       ·obtain ⟨a,ha,rfl⟩:=hb
        injection ha with ha; subst ha
        obtain ⟨a',ha',e⟩:=hb2
        injection ha' with ha'; subst ha'
        exact hbC.2.1 e
      have HMs:Hid (val W64 (ZaY zs) + val W64 (ZaY zt) < val W64 xs + val W64 ys):=by
       obtain ⟨q1,q2,q3,q4⟩:=HQ.out
       have h2:=hS.out.2.2.2.2.2.2.1
       unfold Hid
       rw [Za5,Za5,hr0,hr1]; omega
      have Htl1:=zh (Zbd zs)
      have Htl2:=zh (Zbd zt)
      clear hOA3 hOC3 hr0 hr1 hd1 hd2 hSA hSC hF3 hej hl1 hl2
      go_wp2_with fail
      refine HTr1.out.mono ?_
      rintro e w4 ⟨rfl,rfl⟩
      go_wp2_with fail
      refine HTr2.out.mono ?_
      rintro e w4 ⟨rfl,rfl⟩
      go_wp2
      go_roundg (val W64 (ZaY zs) + val W64 (ZaY zt))
      case measure=>rw [HK.out]; exact HMs.out
      case rel=>exact ⟨ZaY zs,ZaY zt,_,ca,_,c6,rfl,by rw [Htl1.out],by rw [Htl2.out],HNew⟩
  ·have h1':decide ((1:Int) < (ys.length:Int))=false:=by simp; omega
   by_cases h0:ys=[]
   ·subst h0
    have HN:Hid (Zaf wr (.slice Aa xs.length ca) g):=by
     have k1:=hS.out.1.natIs hS.out.2.2.1 hS.out.2.2.2.2.1
     have k2:=hS.out.2.2.2.2.2.2.2.1
     rw [Zc1,Nat.gcd_zero_right] at k2
     rw [k2] at k1
     exact k1
    have HE:Hid (Ext w wr):=hS.out.2.2.2.2.2.2.2.2.1
    clear hS h1 h1' hlen
    go_wp2
    go_ret
    exact ⟨_,rfl,HN.out,HE.out⟩
   ·obtain ⟨y,rfl⟩:∃ y,ys=[y]:=by
     match ys,(by have:=List.length_pos_iff.2 h0; omega:ys.length=1) with
     | [y],_=>exact ⟨y,rfl⟩
    obtain ⟨b3,rfl,hOB,_⟩:=hS.out.2.1.openG h0
    have hc3:=hOB.cell (i:=0) (by simp)
    simp at hc3
    have hb3:=zh hOB.lt
    have HE2:Hid (Ext w wr):=hS.out.2.2.2.2.2.2.2.2.1
    have HS2:Hid (Zan .u64 wr Aa xs):=hS.out.1.shows
    have Hdx:=zh hS.out.2.2.1
    have hyW:y < W64:=hS.out.2.2.2.1 y (by simp)
    have hy0:0 < y:=by
     have:=hS.out.2.2.2.2.2.1 0 rfl
     simp at this; omega
    have hgc:=hS.out.2.2.2.2.2.2.2.1
    simp only [ZcK,Zc1,Nat.mul_zero,Nat.add_zero] at hgc
    obtain ⟨r,er⟩:∃ r,val W64 xs % y=r:=⟨_,rfl⟩
    have hzz:Hid (r < W64∧Nat.gcd y r=g∧g < W64):=by
     have k1:=Nat.mod_lt (val W64 xs) hy0
     have k3:=Nat.gcd_le_right (val W64 xs) hy0
     rw [hgc] at k3
     refine ⟨by omega,?_,by omega⟩
     rw [← er,← hgc,Nat.gcd_comm y,← Nat.gcd_rec,Nat.gcd_comm]
    obtain ⟨x,ex⟩:∃ x,xs.length=x:=⟨_,rfl⟩
    rw [ex] at hx79 ⊢
    have HC3:Hid (wr.cell? ⟨b3,0,none⟩=some (.int .u64 (y:Int))):=hc3
    have Hy0:=zh hy0
    have Hn:=zh hyW
    have Her:=zh er
    have Hex:=zh ex
    clear hS hOB hgc er ex h0 h1 h1' hlen hy0 hyW
    go_wp2_with fail
    go_region_held3 (fun w'=>w'.cell? ⟨b3,0,none⟩=some (.int .u64 (y:Int)))
     (first | exact HC3.out | exact (Fr.cell (p:=⟨b3,0,none⟩) (Fr.undrew hFF) hb3.out (fun f=>f)).trans HC3.out)
     (first
      | (go_at_call 201
         refine (Zbq Aa xs x ca y _ Hex.out HS2.out.drew (by have:=Hex.out; omega) Hdx.out Hy0.out Hn.out).mono ?_
         rintro e w4 ⟨rfl,nd4,hw4⟩
         rw [Her.out]
         have hFF:Ext wr.drew w4:=hw4 ▸ (Fr.refl _ wr.drew).drewN nd4
         clear hw4)
      | (go_at_call 234
         refine (Zev y r g _ (HG.out.ext (HE2.out.trans (Fr.undrew hFF))) Hn.out hzz.out.1 hzz.out.2.1).mono ?_
         rintro e w5 ⟨rfl,rfl⟩)
      | (go_at_call 200
         refine (ZcC g _ hzz.out.2.2).mono ?_
         rintro e w6 ⟨v6,rfl,hN6,hF6⟩
         replace hFF:Ext wr.drew w6:=hFF.trans hF6))
    go_wp2
    go_ret
    exact ⟨_,rfl,hN6,HE2.out.trans (Fr.undrew hFF)⟩
theorem ZkT (u v:Value) (m n:Nat) (w:World) (hg:Glob w) (hu:Zaf w u m) (hv:Zaf w v n) (hm:wl m≤79) (hn:wl n≤79):Calls Tryz.prog 167 #[u,v] w (Zba w (Nat.gcd m n)):=by
 by_cases hs:min m n < W64
 ·exact ZfP u v m n w hg hu hv (by omega) (by omega) hs
 ·rcases Nat.lt_or_ge m n with h | h
  ·exact Zkm v u n m _ w hg hv hu hn (by omega) h (Nat.gcd_comm _ _)
  ·exact Zkl u v m n _ w hg hu hv hm (by omega) h rfl
theorem ZlJ (u v:Value) (m n:Nat) (w:World) (hg:Glob w) (hu:Zaf w u m) (hv:Zaf w v n) (hm:wl m≤4294967296) (hn:wl n≤4294967296) (hs:min m n < W64∨(wl m≤79∧wl n≤79)):Calls Tryz.prog 167 #[u,v] w (Zba w (Nat.gcd m n)):=by
 rcases hs with h | h
 ·exact ZfP u v m n w hg hu hv hm hn h
 ·exact ZkT u v m n w hg hu hv h.1 h.2
end Go.Proofs.YthlipnahcbcjkaaGreatDoor

namespace Go.Proofs.YthlipnahcbcjkaaGreatDoor
open Go.RowKit
def Zdn (x y:Int):Prop:=min x.natAbs y.natAbs < W64∨(wl x.natAbs≤79∧wl y.natAbs≤79)
theorem Zdn.words {x y:Int} (hx:wl x.natAbs≤79) (hy:wl y.natAbs≤79):Zdn x y:=Or.inr ⟨hx,hy⟩
set_option maxHeartbeats 1000000 in
theorem ZeP (a b:Value) (x y:Int) (w:World) (hg:Glob w) (ha:Zah w a x) (hb:Zah w b y) (hx:Fits x) (hy:Fits y) (hs:Zdn x y):Calls Tryz.prog 90 #[a,b] w (Za7 w (Int.gcd x y:Int)):=by
 obtain ⟨s,A,l,c,rfl,hN,hz,z0⟩:=ha.open
 obtain ⟨t,A',l',c',rfl,hN',hz',z0'⟩:=hb.open
 have HN:=zh hN
 have HN':=zh hN'
 have Hx:Hid (wl x.natAbs≤4294967296):=by unfold Fits at hx; unfold Hid; omega
 have Hy:Hid (wl y.natAbs≤4294967296):=by unfold Fits at hy; unfold Hid; omega
 have HG:=zh hg
 have HS:=zh hs
 obtain ⟨z,ez⟩:∃ z,Int.gcd x y=z:=⟨_,rfl⟩
 have Ez:Hid (Nat.gcd x.natAbs y.natAbs=z):=ez
 rw [ez]
 clear ha hb hx hy hN hN' hz hz' z0 z0' hg hs ez
 go_enter Tryz.func90,Tryz.ntmps90
 go_wp2_with fail
 generalize hwb:World.alloc (World.alloc (World.alloc w _) _) _=wb
 obtain ⟨hBx,hBy,hBr,Q⟩:=ZaV hwb
 have HBr:=zh hBr
 have HE:=zh Q
 clear hwb hBx hBy hBr Q
 refine (ZlJ _ _ _ _ _ (HG.out.ext HE.out) (HN.out.ext HE.out) (HN'.out.ext HE.out) Hx.out Hy.out HS.out).mono ?_
 rintro e w1 ⟨u1,rfl,hN1,hF1⟩
 rw [Ez.out] at hN1
 obtain ⟨A1,l1,c1,rfl⟩:=hN1.slice
 obtain ⟨z0,z1,z2,z3⟩:=(HBr.out.ext hF1).cell2
 have HN1:=zh hN1
 have HF1:=zh hF1
 clear hN1 hF1
 go_wp2
 exact ZbO (neg:=false) rfl rfl (by omega) HE.out HBr.out HF1.out HN1.out rfl rfl
set_option maxHeartbeats 1000000 in
theorem Zeh (n:Nat) (w:World) (hn:n < W64) (hw:IntKind.u64.wrap (n:Int)=(n:Int)) (hlt:decide ((n:Int) < 0)=false):Calls Tryz.prog 128 #[.int .i64 (n:Int)] w (Za7 w (n:Int)):=by
 have Hn:=zh hn
 clear hn
 go_enter Tryz.func128,Tryz.ntmps128
 go_wp2_with fail
 generalize hwb:World.alloc w _=wb
 have HBr:Hid (Blk 105 wb w.heap.size #[.bool false, .slice none 0 0]):=hwb ▸ Blk.new _ _ _
 have HE:Hid (Ext w wb):=hwb ▸ (Fr.refl _ _).alloc _
 clear hwb
 refine (ZcC n _ Hn.out).mono ?_
 rintro e w1 ⟨u1,rfl,hN1,hF1⟩
 obtain ⟨A1,l1,c1,rfl⟩:=hN1.slice
 obtain ⟨z0,z1,z2,z3⟩:=(HBr.out.ext hF1).cell2
 have HN1:=zh hN1
 have HF1:=zh hF1
 clear hN1 hF1
 go_wp2
 exact ZbO (neg:=false) rfl rfl (by omega) HE.out HBr.out HF1.out HN1.out rfl rfl
end Go.Proofs.YthlipnahcbcjkaaGreatDoor

namespace Go.Proofs.YthlipnahcbcjkaaGreatDoor
open Go.RowKit
theorem Zah.neg_iff {w:World} {s:Bool} {u:Value} {z:Int} (h:Zah w (.agg #[.bool s,u]) z):(s=true) ↔ z < 0:=by
 obtain ⟨s',u',n,h1,h2,h3,h4⟩:=h
 injection h1 with h1
 simp at h1
 obtain ⟨rfl,rfl⟩:=h1
 cases s<;>simp at h3 h4 ⊢<;>omega
theorem ZeD {x y:Int} (hy:0 < y) (h:0≤x.tmod y):x % y=x.tmod y:=by
 have h1:=Int.tmod_lt_of_pos x hy
 have h2:x=x.tmod y + y * x.tdiv y:=by have:=Int.mul_tdiv_add_tmod x y; omega
 generalize x.tmod y=r at *
 generalize x.tdiv y=q at *
 subst h2
 rw [Int.add_mul_emod_self_left,Int.emod_eq_of_lt h h1]
theorem Zfs {x y:Int} (hy:0 < y) (h:x.tmod y < 0):x % y=x.tmod y + y:=by
 have h1 : -y < x.tmod y:=by
  have h3:=Int.natAbs_tmod x y
  have:=Nat.mod_lt x.natAbs (y:=y.natAbs) (by omega)
  omega
 have h2:x=x.tmod y + y * x.tdiv y:=by have:=Int.mul_tdiv_add_tmod x y; omega
 generalize x.tmod y=r at *
 generalize x.tdiv y=q at *
 subst h2
 rw [Int.add_mul_emod_self_left,← Int.add_emod_right,Int.emod_eq_of_lt (by omega) (by omega)]
theorem Zmq {w wb w1 w2:World} {t:TypeId} {g0 g1 r:Nat} {x y z p q:Array Value} (Q:Ext w wb) (h0:Blk t wb g0 x) (h1:Blk t wb g1 y) (hr:Blk t wb r z) (hF:Ext wb w1) (e:(w1.alloc (.cells p t)).alloc (.cells q t)=w2) :
 Blk t w2 g0 x∧Blk t w2 g1 y∧Blk t w2 r z∧Blk t w2 w1.heap.size p∧Blk t w2 (w1.heap.size + 1) q∧Ext w w2∧Ext w1 w2∧g0 < w1.heap.size∧g1 < w1.heap.size∧r < w1.heap.size:=by
 obtain ⟨k0,k1,k2⟩:=Zcr e
 exact ⟨(h0.ext hF).ext k2,(h1.ext hF).ext k2,(hr.ext hF).ext k2,k0,k1,(Q.trans hF).trans k2,k2,(h0.ext hF).lt,(h1.ext hF).lt,(hr.ext hF).lt⟩
set_option maxHeartbeats 4000000 in
theorem ZfR (a b:Value) (x y:Int) (w:World) (ha:Zah w a x) (hb:Zah w b y) (hx:Fits x) (hy:wl y.natAbs < 80) (h0:0 < y):Calls Tryz.prog 205 #[a,b] w (Za7 w (x % y)):=by
 obtain ⟨s,A,l,c,rfl⟩:=ha.shape
 obtain ⟨t,A',l',c',rfl⟩:=hb.shape
 have Ha:=zh ha
 have Hb:=zh hb
 have Hx:=zh hx
 have Hy:=zh hy
 have H0:Hid (y≠0):=by unfold Hid; omega
 have Hpos:=zh h0
 obtain ⟨z,ez⟩:∃ z,x % y=z:=⟨_,rfl⟩
 obtain ⟨q,eq⟩:∃ q,x.tdiv y=q:=⟨_,rfl⟩
 obtain ⟨r,er⟩:∃ r,x.tmod y=r:=⟨_,rfl⟩
 have HQ:Hid (x.tdiv y=q∧x.tmod y=r):=⟨eq,er⟩
 have HZ:Hid ((0≤r→z=r)∧(r < 0→z=r + y)∧r.natAbs≤x.natAbs):=by
  unfold Hid
  refine ⟨fun h=>?_,fun h=>?_,?_⟩
  ·rw [← ez,← er]
   exact ZeD h0 (er ▸ h)
  ·rw [← ez,← er]
   exact Zfs h0 (er ▸ h)
  ·rw [← er,Int.natAbs_tmod]; exact Nat.mod_le _ _
 rw [ez]
 clear ha hb hx hy h0 ez eq er
 go_enter Tryz.func205,Tryz.ntmps205
 go_wp2_with fail
 generalize hwb:World.alloc (World.alloc (World.alloc w _) _) _=wb
 obtain ⟨hBx,hBy,hBr,Q⟩:=ZaV hwb
 have HBx:=zh hBx
 have HBy:=zh hBy
 have HBr:=zh hBr
 have HE:=zh Q
 clear hwb hBx hBy hBr Q
 refine (Zf7 _ _ _ _ _ (Ha.out.ext HE.out) (Hb.out.ext HE.out) Hx.out Hy.out H0.out).mono ?_
 rintro e w1 ⟨u1,u2,rfl,hN1,hN2,hF1⟩
 rw [HQ.out.1] at hN1
 rw [HQ.out.2] at hN2
 obtain ⟨s1,A1,l1,c1,rfl⟩:=hN1.shape
 obtain ⟨s2,A2,l2,c2,rfl⟩:=hN2.shape
 have hs2:=hN2.neg_iff
 have HN2:=zh hN2
 have HF1:=zh hF1
 obtain ⟨z0,z1,z2,z3⟩:=(HBr.out.ext hF1).cell2
 have hlt1:=(HBr.out.ext hF1).lt
 have hlt2:=Nat.lt_succ_of_lt hlt1
 clear hN1 hN2 hF1
 cases s2 with
 | false =>
   have hr0:Hid (0≤r):=by unfold Hid; simp at hs2; exact hs2
   clear hs2
   go_wp2
   have hB:=((HBr.out.ext HF1.out).set_ 0 (.bool false)).set_ 1 (.slice A2 l2 c2)
   refine bodyPost_ret (Zcs rfl _ _ (w.heap.size + 1 + 1) _ _ rfl ((hB.alloc _).alloc _)) rfl ⟨_,rfl,?_,((((HE.out.trans HF1.out).setCell (Or.inr (by simp; omega)) _).setCell (Or.inr (by simp; omega)) _).alloc _).alloc _⟩
   rw [HZ.out.1 hr0.out]
   exact (HN2.out.store2 (HBr.out.ext HF1.out)).ext (((Fr.refl _ _).alloc _).alloc _)
 | true =>
   have hr0:Hid (r < 0):=by unfold Hid; simp at hs2; exact hs2
   clear hs2
   go_wp2_with fail
   generalize hw2:World.alloc (World.alloc w1 _) _=w2
   obtain ⟨hBx2,hBy2,hBr2,hBp2,hBq2,hE2,hF2,hb0,hb1,hb2⟩:=Zmq HE.out HBx.out HBy.out HBr.out HF1.out hw2
   clear z0 z1 z2 z3 hlt1 hlt2 hw2
   have HBy2:=zh hBy2
   have HBq2:=zh hBq2
   have HBr2:=zh hBr2
   have HE2:=zh hE2
   have HF2:=zh hF2
   have Hlt:=zh hb2
   have Hrf:Hid (Fits r):=by
    have:=HZ.out.2.2; have h:=Hx.out; unfold Hid Fits at *; exact Nat.le_trans (Za3 this) h
   have Hyf:Hid (Fits (y.natAbs:Int)):=by
    have h:=Hy.out; unfold Hid Fits; simp; omega
   clear hBx2 hBy2 hBr2 hBp2 hBq2 hE2 hF2 hb0 hb1 hb2
   go_region_held3 (fun w'=>w'.cell? ⟨w.heap.size + 1,0,none⟩=some (.bool t)∧w'.cell? ⟨w.heap.size + 1,1,none⟩=some (.slice A' l' c')∧w'.cell? ⟨w1.heap.size + 1,0,none⟩=some (.bool true)∧w'.cell? ⟨w1.heap.size + 1,1,none⟩=some (.slice A2 l2 c2))
    (first | exact Zcx HBy2.out HBq2.out (Fr.refl _ _).drew | exact Zcx HBy2.out HBq2.out (Fr.undrew hF3) | exact Ze3 HBy2.out HBq2.out (Fr.undrew hF3) (by omega) (by have:=Hlt.out; omega))
    (first
     | (go_at_call 260
        refine (Zo8 _ _ _ (Hb.out.ext HE2.out.drew)).mono ?_
        rintro e w3 ⟨u3,rfl,hN3,hF3⟩
        obtain ⟨s3,A3,l3,c3,rfl⟩:=hN3.shape)
     | (go_at_call 131
        refine (Zjr _ _ r _ _ (HN2.out.ext (HF2.out.drew.trans hF3)) hN3 Hrf.out Hyf.out).mono ?_
        rintro e w4 ⟨u4,rfl,hN4,hF4⟩
        obtain ⟨s4,A4,l4,c4,rfl⟩:=hN4.shape
        replace hF3:Ext w2.drew w4:=hF3.trans hF4
        obtain ⟨z0,z1,z2,z3⟩:=(HBr2.out.ext (Fr.undrew hF3)).cell2))
   go_wp2
   refine Zid rfl rfl (by omega) HE2.out HBr2.out (Fr.undrew hF3) ?_
   rw [HZ.out.2.1 hr0.out]
   have e:((y.natAbs:Nat):Int)=y:=by have:=Hpos.out; omega
   rw [e] at hN4
   exact hN4
end Go.Proofs.YthlipnahcbcjkaaGreatDoor

namespace Go.Proofs.YthlipnahcbcjkaaGreatDoor
open Go.RowKit
theorem Zl2 {p r x n:Nat} (hn:n % 2=1):(r * x % p) * (x * x % p) ^ (n / 2) % p=r * x ^ n % p:=by
 have e:x ^ n=x * (x * x) ^ (n / 2):=by
  conv=>lhs; rw [show n=2 * (n / 2) + 1 by omega,Nat.pow_succ,Nat.pow_mul,Nat.pow_two,Nat.mul_comm]
 rw [e,← Nat.mul_assoc,Nat.mul_mod,Nat.mod_mod,Nat.pow_mod,Nat.mod_mod,← Nat.pow_mod,← Nat.mul_mod]
theorem ZkU {p r x n:Nat} (hn:n % 2=0):r * (x * x % p) ^ (n / 2) % p=r * x ^ n % p:=by
 have e:x ^ n=(x * x) ^ (n / 2):=by
  conv=>lhs; rw [show n=2 * (n / 2) by omega,Nat.pow_mul,Nat.pow_two]
 rw [e,Nat.mul_mod,Nat.pow_mod,Nat.mod_mod,← Nat.pow_mod,← Nat.mul_mod]
theorem Zoc (n:Nat) (hn:n < W64):bits .and .u64 (n:Int) 1=((n % 2:Nat):Int):=by
 rw [Zal] at hn
 have h:=u64_and_nat n 1 hn (by omega)
 rw [Nat.and_one_is_mod] at h
 exact h
theorem ZkV {a p:Nat}:(a:Int).tmod (p:Int)=((a % p:Nat):Int):=by
 rw [Int.tmod_eq_emod_of_nonneg (by omega),Int.natCast_emod]
theorem Zf9 {a b p:Nat} (ha:a < p) (hb:b < p) (hp:p≤2147483647):(IntKind.u64.wrap ((a:Int) * (b:Int))).tmod (p:Int)=((a * b % p:Nat):Int):=by
 have h:a * b≤2147483647 * 2147483647:=Nat.mul_le_mul (by omega) (by omega)
 rw [ZcF (by rw [Zal]; omega),ZkV]
set_option maxHeartbeats 1000000 in
theorem Zm8 (x n p T:Nat) (w:World) (hx:x < p) (hp:2≤p) (hm:p≤2147483647) (hn:n < W64) (hT:x ^ n % p=T) :
 Calls Tryz.prog 202 #[.int .u64 (x:Int), .int .u64 (n:Int), .int .u64 (p:Int)] w fun e w'=>e=.returned (.int .u64 (T:Int))∧w=w':=by
 have HT:=zh hT
 have HN:=zh hn
 have hp0:((p:Int) == 0)=false:=by simp; omega
 clear hT hn
 go_enter Tryz.func202,Tryz.ntmps202
 go_wp2
 go_loop [0,1,7] (fun xv nv rv=>∃ x n r:Nat,xv=.int .u64 (x:Int)∧nv=.int .u64 (n:Int)∧rv=.int .u64 (r:Int)∧x < p∧r < p∧Hid (r * x ^ n % p=T∧n < W64)) (fun _ nv _=>(intOf nv).toNat)
 case atStart=>exact ⟨x,n,1,rfl,rfl,rfl,hx,by omega,by rw [Nat.one_mul]; exact HT.out,HN.out⟩
 case round =>
  obtain ⟨x,n,r,rfl,rfl,rfl,hx,hr,hR⟩:=hrel
  have HA:=zh (Zoc n hR.out.2)
  by_cases h0:0 < n
  ·have hn2:Hid (((n / 2:Nat):Int)=(n:Int) / 2):=by unfold Hid; omega
   have hm1:=zh (Zf9 hx hx hm)
   have hm2:=zh (Zf9 hr hx hm)
   have hlt:Hid (n / 2 < W64):=by have:=hR.out.2; unfold Hid; omega
   by_cases h1:n % 2=1
   ·have hb:(bits BinOp.and IntKind.u64 (n:Int) 1 == 1)=true:=by rw [HA.out]; simp; omega
    have H1:=zh h1
    clear h1
    go_wp2
    go_round
    case rel=>exact ⟨x * x % p,n / 2,r * x % p,by rw [hm1.out],by rw [hn2.out],by rw [hm2.out],Nat.mod_lt _ (by omega),Nat.mod_lt _ (by omega),by rw [Zl2 H1.out]; exact hR.out.1,hlt.out⟩
    case measure=>simp [intOf]; omega
   ·have hb:(bits BinOp.and IntKind.u64 (n:Int) 1 == 1)=false:=by rw [HA.out]; simp; omega
    have H1:Hid (n % 2=0):=by unfold Hid; omega
    clear h1
    go_wp2
    go_round
    case rel=>exact ⟨x * x % p,n / 2,r,by rw [hm1.out],by rw [hn2.out],rfl,Nat.mod_lt _ (by omega),hr,by rw [ZkU H1.out]; exact hR.out.1,hlt.out⟩
    case measure=>simp [intOf]; omega
  ·have hd:=hR.out.1
   obtain rfl:n=0:=by omega
   rw [Nat.pow_zero,Nat.mul_one,Nat.mod_eq_of_lt hr] at hd
   have HD:=zh hd
   clear hd
   go_wp2
   go_ret
   exact ⟨by rw [← HD.out]; rfl,rfl⟩
def invN (x p:Nat):Nat:=x ^ (p - 2) % p
set_option maxHeartbeats 1000000 in
theorem ZiG (x p:Nat) (w:World) (hx:x < p) (hp:2≤p) (hm:p≤2147483647) :
 Calls Tryz.prog 130 #[.int .u64 (x:Int), .int .u64 (p:Int)] w fun e w'=>e=.returned (.int .u64 (invN x p:Int))∧w=w':=by
 have hw:IntKind.u64.wrap ((p:Int) - 2)=((p - 2:Nat):Int):=by
  rw [show (p:Int) - 2=((p - 2:Nat):Int) by omega]
  exact Zbh _ (by rw [Zal]; omega)
 obtain ⟨T,hT⟩:∃ T,invN x p=T:=⟨_,rfl⟩
 rw [hT]
 have HT:Hid (x ^ (p - 2) % p=T):=hT
 obtain ⟨m,em⟩:∃ m,p - 2=m:=⟨_,rfl⟩
 rw [em] at hw HT
 have Hm:Hid (m < W64):=by unfold Hid; rw [Zal]; omega
 clear hT em
 go_enter Tryz.func130,Tryz.ntmps130
 go_wp2_with (go_at_call 202; refine (Zm8 x m p T _ hx hp hm Hm.out HT.out).mono ?_; rintro e w' ⟨rfl,rfl⟩)
 go_ret
 exact ⟨rfl,rfl⟩
set_option maxHeartbeats 1000000 in
theorem ZhR (a p:Int) (w:World) (_h1 : -9223372036854775808≤a) (_h2:a≤9223372036854775807) (hp:1≤p) (hm:p≤2147483647) :
 Calls Tryz.prog 62 #[.int .i64 a, .int .i64 p] w fun e w'=>e=.returned (.int .u64 (a % p))∧w=w':=by
 have hp0:(p == 0)=false:=by simp; omega
 have hb:=Int.tmod_lt_of_pos a (b:=p) (by omega)
 have hb' : -p < a.tmod p:=by
  have h3:=Int.natAbs_tmod a p
  have:=Nat.mod_lt a.natAbs (y:=p.natAbs) (by omega)
  omega
 have hz1:Hid (0≤a.tmod p→a % p=a.tmod p):=fun h=>ZeD (by omega) h
 have hz2:Hid (a.tmod p < 0→a % p=a.tmod p + p):=fun h=>Zfs (by omega) h
 go_enter Tryz.func62,Tryz.ntmps62
 go_wp2
 ·go_ret
  exact ⟨by rw [hz2.out (by assumption)]; rfl,rfl⟩
 ·go_ret
  exact ⟨by rw [hz1.out (by assumption)]; rfl,rfl⟩
end Go.Proofs.YthlipnahcbcjkaaGreatDoor

namespace Go.Proofs.YthlipnahcbcjkaaGreatDoor
open Go.RowKit
def ZaJ (c:UInt8):Bool:=decide (48≤c.toNat) && decide (c.toNat≤57)
abbrev bytes (s:ByteArray):List UInt8:=s.data.toList
theorem ZgZ {p:UInt8→Bool}:∀ {l:List UInt8} {k:Nat},(l.take k).all p=true→(∀ h:k < l.length,p l[k]=false)→l.takeWhile p=l.take k∧l.dropWhile p=l.drop k
 | [],k,_,_=>by simp
 | x :: l,0,_,h=>by
   have:=h (by simp)
   simp at this
   simp [this]
 | x :: l,k + 1,h1,h2=>by
   simp only [List.take_succ_cons,List.all_cons,Bool.and_eq_true] at h1
   have:=ZgZ (l:=l) (k:=k) h1.2 (fun h=>by have:=h2 (by simp; omega); simpa using this)
   simp [h1.1,this.1,this.2]
theorem Zat (s:ByteArray):(bytes s).length=s.size:=Array.length_toList
theorem ZcX (s:ByteArray) (a b:Nat):bytes (s.extract a b)=((bytes s).drop a).take (b - a):=Lib.extract_data s a b
theorem Zoh (s:ByteArray) {k:Nat} (h:k < s.size):(bytes s)[k]'(by rw [Zat]; exact h)=s[k]:=rfl
theorem Znl (s:ByteArray) (k:Nat) (h:k < s.size):(bytes s).take (k + 1)=(bytes s).take k ++ [s[k]]:=by
 rw [List.take_succ_eq_append_getElem (by rw [Zat]; exact h)]; rfl
theorem Zjw {s:ByteArray} {k:Nat} (hR:((bytes s).take k).all ZaJ=true) (hd:∀ h:k < s.size,ZaJ s[k]=false) :
 bytes (s.extract 0 k)=(bytes s).takeWhile ZaJ∧bytes (s.extract k s.size)=(bytes s).dropWhile ZaJ:=by
 obtain ⟨h1,h2⟩:=ZgZ hR (fun h=>hd (by rw [Zat] at h; exact h))
 rw [ZcX,ZcX,h1,h2]
 refine ⟨by simp,?_⟩
 rw [List.take_of_length_le (by rw [List.length_drop,Zat]; exact Nat.le_refl _)]
def ZpI (s:ByteArray) (w:World) (e:Ending) (w':World):Prop :=
 ∃ t u:ByteArray,e=.returned (.tuple #[.string t, .string u])∧bytes t=(bytes s).takeWhile ZaJ∧bytes u=(bytes s).dropWhile ZaJ∧∃ n,w'=w.drewN n
set_option maxHeartbeats 1000000 in
theorem ZgF (s:ByteArray) (w:World) (hs:s.size≤1099511627776):Calls Tryz.prog 139 #[.string s] w (ZpI s w):=by
 go_enter Tryz.func139,Tryz.ntmps139
 go_wp2
 go_loop [4] (fun v=>∃ k:Nat,k≤s.size∧v=.int .i64 (k:Int)∧Hid (((bytes s).take k).all ZaJ=true)) (fun v=>s.size - (intOf v).toNat)
 case atStart=>exact ⟨0,Nat.zero_le _,rfl,rfl⟩
 case round =>
  obtain ⟨k,hk,rfl,hR⟩:=hrel
  by_cases hlt:k < s.size
  ·have hb:ZaJ s[k]=(decide (48≤s[k].toNat) && decide (s[k].toNat≤57)):=rfl
   have HB:=zh hb
   have hts:=zh (Znl s k hlt)
   clear hb
   go_wp2_with fail
   ·have h1:48≤(s[k].toNat:Int):=by assumption
    have h2:(s[k].toNat:Int)≤57:=by assumption
    go_round
    case rel =>
     refine ⟨k + 1,by omega,by go_num,?_⟩
     unfold Hid
     rw [hts.out,List.all_append,hR.out]
     simp only [List.all_cons,List.all_nil,Bool.and_true,Bool.true_and]
     rw [HB.out,decide_eq_true (by omega),decide_eq_true (by omega)]; rfl
    case measure=>simp [intOf]; omega
   ·have h1:57 < (s[k].toNat:Int):=by assumption
    have hfin:=zh (Zjw hR.out (fun _=>by rw [HB.out,decide_eq_false (p:=s[k].toNat≤57) (by omega),Bool.and_false]))
    go_quiet (fail)
    go_wp2
    go_ret2
    exact ⟨_,_,rfl,hfin.out.1,hfin.out.2,_,rfl⟩
   ·have h1:(s[k].toNat:Int) < 48:=by assumption
    have hfin:=zh (Zjw hR.out (fun _=>by rw [HB.out,decide_eq_false (p:=48≤s[k].toNat) (by omega),Bool.false_and]))
    go_quiet (fail)
    go_wp2
    go_ret2
    exact ⟨_,_,rfl,hfin.out.1,hfin.out.2,_,rfl⟩
  ·have hfin:=zh (Zjw hR.out (fun h=>absurd h hlt))
   go_wp2_with fail
   go_quiet (fail)
   go_wp2
   go_ret2
   exact ⟨_,_,rfl,hfin.out.1,hfin.out.2,_,rfl⟩
def Zck (l:List UInt8):Bool × List UInt8:=if l.head? = some 45 then (true,l.tail) else (false,l)
def Zoi (s:ByteArray) (w:World) (e:Ending) (w':World):Prop:=∃ (r:ByteArray) (neg:Bool),e=.returned (.tuple #[.string r, .bool neg])∧Zck (bytes s)=(neg,bytes r)∧w=w'
theorem Zk7 (s:ByteArray) (w:World):Calls Tryz.prog 138 #[.string s, .string ⟨#[45]⟩] w (Zoi s w):=by
 refine (Tryz.strings_CutPrefix s ⟨#[45]⟩ w).mono ?_
 rintro e w1 ⟨rfl,rfl⟩
 refine ⟨_,_,rfl,?_,rfl⟩
 unfold Zck
 cases h:s.data.toList with
 | nil=>simp [bytes,h,Lib.trimPrefix,Lib.hasPrefix]
 | cons x l =>
   by_cases hx:x=45
   ·subst hx; simp [bytes,h,Lib.trimPrefix,Lib.hasPrefix]
   ·have hx':¬ 45=x:=fun e=>hx e.symm
    simp [bytes,h,Lib.trimPrefix,Lib.hasPrefix,List.isPrefixOf,hx,hx']
def Zbw (l:List UInt8):Bool × List UInt8 × List UInt8 × Bool :=
 let p:=Zck l
 let num:=p.2.takeWhile ZaJ
 let rest:=p.2.dropWhile ZaJ
 if num=[48] then (p.1,num,[],!p.1 && rest.isEmpty)
 else if num=[]∨num.head? = some 48 then (p.1,num,[],false)
 else if rest=[] then (p.1,num,[],true)
 else if rest.head? ≠ some 47 then (p.1,num,[],false)
 else (p.1,num,rest.tail.takeWhile ZaJ,(rest.tail.dropWhile ZaJ).isEmpty && !(rest.tail.takeWhile ZaJ).isEmpty && (rest.tail.takeWhile ZaJ).head? != some 48 && (rest.tail.takeWhile ZaJ) != [49])
def Zk8 (s:ByteArray) (w:World) (e:Ending) (w':World):Prop :=
 ∃ (neg:Bool) (t d:ByteArray) (ok:Bool),e=.returned (.tuple #[.agg #[.bool neg, .string t, .string d], .bool ok])∧Zbw (bytes s)=(neg,bytes t,bytes d,ok)∧Ext w w'
theorem Znm {l r:List UInt8} {neg:Bool} (h:Zck l=(neg,r)):r.length≤l.length:=by
 unfold Zck at h
 split at h<;>(injection h with _ h; subst h; simp)
theorem ZeR {t:ByteArray} (h:bytes t≠[]):0 < t.size∧t.toList≠[]∧t.toList.isEmpty=false:=by
 rw [Lib.toList_data]
 have h1:0 < t.size:=by rw [← Zat]; exact List.length_pos_iff.2 h
 exact ⟨h1,h,by simpa using h⟩
theorem Zg0 {t:ByteArray} (h:0 < t.size):(bytes t).head? = some t[0]:=by
 have h1:0 < (bytes t).length:=by rw [Zat]; exact h
 rw [List.head?_eq_getElem?,List.getElem?_eq_getElem h1,Zoh t h]
theorem Zjx {b:UInt8} {n:Nat} (hn:n < 256):((b.toNat:Int) == (n:Int))=decide (b=UInt8.ofNat n):=by
 rw [Bool.eq_iff_iff]
 simp
 constructor
 ·intro h
  have:b.toNat=n:=by omega
  rw [← this]; simp
 ·rintro rfl
  simp [Nat.mod_eq_of_lt hn]
theorem Blk.cell3 {t:TypeId} {w:World} {g:Nat} {x y z:Value} (h:Blk t w g #[x,y,z]):w.cell? ⟨g,0,none⟩=some x∧w.cell? ⟨g,1,none⟩=some y∧w.cell? ⟨g,2,none⟩=some z∧w.frozen? ⟨g,0,none⟩=false∧w.frozen? ⟨g,1,none⟩=false∧w.frozen? ⟨g,2,none⟩=false :=
 ⟨h.cell 0,h.cell 1,h.cell 2,h.frozen 0,h.frozen 1,h.frozen 2⟩
theorem ZbI {fn:Func} {tmps:Array Value} {w wz:World} {r:Nat} {neg ok:Bool} {s t d:ByteArray} (hres:fn.results=#[.cell 2 158, .tmp 3]) (ht:tmps[2]? = some (.pointer (some ⟨r,0,none⟩))) (h3:tmps[3]? = some (.bool ok))
 (hB:Blk 158 wz r #[.bool neg, .string t, .string d]) (Q:Ext w wz) (hS:Zbw (bytes s)=(neg,bytes t,bytes d,ok)):bodyPost Tryz.prog fn (Zk8 s w) .ret ⟨tmps,[]⟩ wz:=by
 obtain ⟨h0,h1,h2,_⟩:=hB.cell3
 refine bodyPost_ret (v:=.tuple #[.agg #[.bool neg, .string t, .string d], .bool ok]) (by simp [results,hres,ht,h3,go_sem,h0,h1,h2]) rfl ⟨neg,t,d,ok,rfl,hS,Q⟩
set_option maxHeartbeats 2000000 in
theorem Znn (s:ByteArray) (w:World) (hs:s.size≤1099511627776):Calls Tryz.prog 119 #[.string s] w (Zk8 s w):=by
 go_enter Tryz.func119,Tryz.ntmps119
 go_wp2_with fail
 refine (Zk7 s _).mono ?_
 rintro e w1 ⟨r,neg,rfl,hr,rfl⟩
 have hrs:r.size≤1099511627776:=by
  have:=Znm hr; rw [Zat,Zat] at this; omega
 have HR:=zh hr
 clear hr
 go_wp2_with fail
 refine (ZgF r _ hrs).mono ?_
 rintro e w1 ⟨t,u,rfl,ht,hu,n1,rfl⟩
 have HT:=zh ht
 have HU:=zh hu
 have hus:u.size≤1099511627776:=by
  have h1:=congrArg List.length hu
  have h2:=(List.dropWhile_suffix ZaJ (l:=bytes r)).sublist.length_le
  rw [Zat] at h1
  rw [Zat] at h2
  omega
 have HSP:Hid (∀ (d:List UInt8) (ok:Bool),Zbw (bytes s)=(neg,bytes t,d,ok) ↔ (if bytes t=[48] then (neg,bytes t,[],!neg && (bytes u).isEmpty)
  else if bytes t=[]∨(bytes t).head? = some 48 then (neg,bytes t,[],false)
  else if bytes u=[] then (neg,bytes t,[],true)
  else if (bytes u).head? ≠ some 47 then (neg,bytes t,[],false)
  else (neg,bytes t,(bytes u).tail.takeWhile ZaJ,((bytes u).tail.dropWhile ZaJ).isEmpty && !((bytes u).tail.takeWhile ZaJ).isEmpty && ((bytes u).tail.takeWhile ZaJ).head? != some 48 && ((bytes u).tail.takeWhile ZaJ) != [49]))=(neg,bytes t,d,ok)):=by
  intro d ok
  unfold Zbw
  rw [HR.out]
  simp only [← HT.out,← HU.out]
 clear ht hu
 generalize hwb:World.alloc (World.alloc w _) _=wb0
 obtain ⟨hBR,hBF,Q⟩:=Zcr hwb
 clear hwb
 generalize hwb:World.drewN wb0 n1=wb
 have HBR:Hid (Blk 158 wb w.heap.size #[.bool false, .string ⟨#[]⟩, .string ⟨#[]⟩]):=hwb ▸ hBR.drewN n1
 have HBF:Hid (Blk 158 wb (w.heap.size + 1) #[.bool neg, .string ⟨#[]⟩, .string ⟨#[]⟩]):=hwb ▸ hBF.drewN n1
 have HE:Hid (Ext w wb):=hwb ▸ Q.drewN n1
 clear hwb hBR hBF Q
 clear wb0
 obtain ⟨x0,x1,x2,x3,x4,x5⟩:=HBR.out.cell3
 obtain ⟨y0,y1,y2,y3,y4,y5⟩:=HBF.out.cell3
 have hu1:u.toList=bytes u:=Lib.toList_data u
 have ht1:t.toList=bytes t:=Lib.toList_data t
 have HU1:=zh hu1
 have HT1:=zh ht1
 clear hu1 ht1
 by_cases c1:bytes t=[48]
 ·have d1:(t.toList == [48])=true:=by rw [HT1.out,c1]; rfl
  cases neg with
  | true =>
    have HS:Hid (Zbw (bytes s)=(true,bytes t,bytes ⟨#[]⟩,false)):=by
     unfold Hid; rw [HSP.out,if_pos c1]; rfl
    clear c1
    go_wp2
    exact ZbI rfl rfl rfl ((((HBR.out.far (p:=⟨w.heap.size + 1,1,none⟩) (by simp) (.string t)).set_ 0 (.bool true)).set_ 1 (.string t)).set_ 2 (.string ⟨#[]⟩)) ((((HE.out.setCell (Or.inr (by simp)) _).setCell (Or.inr (by simp)) _).setCell (Or.inr (by simp)) _).setCell (Or.inr (by simp)) _) HS.out
  | false =>
    by_cases c2:bytes u=[]
    ·have d2:u.toList.isEmpty=true:=by rw [HU1.out,c2,List.isEmpty_nil]
     have HS:Hid (Zbw (bytes s)=(false,bytes t,bytes ⟨#[]⟩,true)):=by
      unfold Hid; rw [HSP.out,if_pos c1,c2]; rfl
     clear c1 c2
     go_wp2
     exact ZbI rfl rfl rfl ((((HBR.out.far (p:=⟨w.heap.size + 1,1,none⟩) (by simp) (.string t)).set_ 0 (.bool false)).set_ 1 (.string t)).set_ 2 (.string ⟨#[]⟩)) ((((HE.out.setCell (Or.inr (by simp)) _).setCell (Or.inr (by simp)) _).setCell (Or.inr (by simp)) _).setCell (Or.inr (by simp)) _) HS.out
    ·have d2:u.toList.isEmpty=false:=(ZeR c2).2.2
     have HS:Hid (Zbw (bytes s)=(false,bytes t,bytes ⟨#[]⟩,false)):=by
      unfold Hid; rw [HSP.out,if_pos c1,show (bytes u).isEmpty=false by simpa using c2]; rfl
     clear c1 c2
     go_wp2
     exact ZbI rfl rfl rfl ((((HBR.out.far (p:=⟨w.heap.size + 1,1,none⟩) (by simp) (.string t)).set_ 0 (.bool false)).set_ 1 (.string t)).set_ 2 (.string ⟨#[]⟩)) ((((HE.out.setCell (Or.inr (by simp)) _).setCell (Or.inr (by simp)) _).setCell (Or.inr (by simp)) _).setCell (Or.inr (by simp)) _) HS.out
 have d1:(t.toList == [48])=false:=by rw [HT1.out]; simpa using c1
 by_cases c2:bytes t=[]
 ·have d2:t.toList=[]:=HT1.out.trans c2
  have HS:Hid (Zbw (bytes s)=(neg,bytes t,bytes ⟨#[]⟩,false)):=by
   unfold Hid; rw [HSP.out,if_neg c1,if_pos (Or.inl c2)]
  clear c1 c2
  go_wp2
  exact ZbI rfl rfl rfl ((((HBR.out.far (p:=⟨w.heap.size + 1,1,none⟩) (by simp) (.string t)).set_ 0 (.bool neg)).set_ 1 (.string t)).set_ 2 (.string ⟨#[]⟩)) ((((HE.out.setCell (Or.inr (by simp)) _).setCell (Or.inr (by simp)) _).setCell (Or.inr (by simp)) _).setCell (Or.inr (by simp)) _) HS.out
 obtain ⟨g1,g2,g3⟩:=ZeR c2
 have hb0:=Zjx (b:=t[0]) (n:=48) (by omega)
 have hh0:=Zg0 g1
 by_cases c3:t[0]=48
 ·have d3:((t[0].toNat:Int) == 48)=true:=by rw [show (48:Int)=((48:Nat):Int) from rfl,hb0]; simpa using c3
  have HS:Hid (Zbw (bytes s)=(neg,bytes t,bytes ⟨#[]⟩,false)):=by
   unfold Hid; rw [HSP.out,if_neg c1,if_pos (Or.inr (by rw [hh0,c3]))]
  clear c1 c2 c3 hb0 hh0
  go_wp2
  exact ZbI rfl rfl rfl ((((HBR.out.far (p:=⟨w.heap.size + 1,1,none⟩) (by simp) (.string t)).set_ 0 (.bool neg)).set_ 1 (.string t)).set_ 2 (.string ⟨#[]⟩)) ((((HE.out.setCell (Or.inr (by simp)) _).setCell (Or.inr (by simp)) _).setCell (Or.inr (by simp)) _).setCell (Or.inr (by simp)) _) HS.out
 have d3:((t[0].toNat:Int) == 48)=false:=by rw [show (48:Int)=((48:Nat):Int) from rfl,hb0]; simpa using c3
 have c4:¬ (bytes t=[]∨(bytes t).head? = some 48):=by
  rintro (h | h)
  ·exact c2 h
  ·rw [hh0] at h; injection h with h; exact c3 h
 clear hb0 hh0 c3 c2
 by_cases c5:bytes u=[]
 ·have d5:u.toList.isEmpty=true:=by rw [HU1.out,c5]; rfl
  have HS:Hid (Zbw (bytes s)=(neg,bytes t,bytes ⟨#[]⟩,true)):=by
   unfold Hid; rw [HSP.out,if_neg c1,if_neg c4,if_pos c5]
  clear c1 c4 c5
  go_wp2
  exact ZbI rfl rfl rfl ((((HBR.out.far (p:=⟨w.heap.size + 1,1,none⟩) (by simp) (.string t)).set_ 0 (.bool neg)).set_ 1 (.string t)).set_ 2 (.string ⟨#[]⟩)) ((((HE.out.setCell (Or.inr (by simp)) _).setCell (Or.inr (by simp)) _).setCell (Or.inr (by simp)) _).setCell (Or.inr (by simp)) _) HS.out
 obtain ⟨k1,k2,k3⟩:=ZeR c5
 have hb0:=Zjx (b:=u[0]) (n:=47) (by omega)
 have hh0:=Zg0 k1
 by_cases c6:u[0]=47
 ·have d6:((u[0].toNat:Int) != 47)=false:=by
   have:((u[0].toNat:Int) == 47)=true:=by rw [show (47:Int)=((47:Nat):Int) from rfl,hb0]; simpa using c6
   simp [bne,this]
  have H6:Hid (¬ (bytes u).head? ≠ some 47):=by unfold Hid; rw [hh0,c6]; simp
  have HC:Hid (bytes t≠[48]∧¬ (bytes t=[]∨(bytes t).head? = some 48)∧bytes u≠[]):=⟨c1,c4,c5⟩
  clear c1 c4 c5 c6 hb0 hh0
  go_wp2_with fail
  refine (ZgF (u.extract 1 u.size) _ (by rw [ByteArray.size_extract]; omega)).mono ?_
  rintro e w1 ⟨v,x,rfl,hv,hx,n2,rfl⟩
  have ev:bytes (u.extract 1 u.size)=(bytes u).tail:=by
   rw [ZcX,List.take_of_length_le (by rw [List.length_drop,Zat]; exact Nat.le_refl _),List.drop_one]
  rw [ev] at hv hx
  have HF:Hid (∀ ok,(((bytes x).isEmpty && !(bytes v).isEmpty && (bytes v).head? != some 48 && (bytes v) != [49])=ok)→Zbw (bytes s)=(neg,bytes t,bytes v,ok)):=by
   intro ok h
   rw [HSP.out,if_neg HC.out.1,if_neg HC.out.2.1,if_neg HC.out.2.2,if_neg H6.out,← hv,← hx,h]
  have hv1:v.toList=bytes v:=Lib.toList_data v
  have hx1:x.toList=bytes x:=Lib.toList_data x
  have HV1:=zh hv1
  have HX1:=zh hx1
  clear hv hx ev hv1 hx1 d6
  generalize hwc:World.setCell wb _ _=wc0
  generalize hwd:World.drewN wc0 n2=wd
  have HBR2:Hid (Blk 158 wd w.heap.size #[.bool false, .string ⟨#[]⟩, .string ⟨#[]⟩]):=hwd ▸ hwc ▸ (HBR.out.far (p:=⟨w.heap.size + 1,1,none⟩) (by simp) _).drewN n2
  have HBF2:Hid (Blk 158 wd (w.heap.size + 1) #[.bool neg, .string t, .string ⟨#[]⟩]):=hwd ▸ hwc ▸ (HBF.out.set_ 1 _).drewN n2
  have HE2:Hid (Ext w wd):=hwd ▸ hwc ▸ (HE.out.setCell (Or.inr (by simp)) _).drewN n2
  clear hwd hwc HBR HBF HE x0 x1 x2 x3 x4 x5 y0 y1 y2 y3 y4 y5
  clear wc0
  obtain ⟨x0,x1,x2,x3,x4,x5⟩:=HBR2.out.cell3
  obtain ⟨y0,y1,y2,y3,y4,y5⟩:=HBF2.out.cell3
  go_wp2_with fail
  by_cases q1:bytes x=[]
  ·have r1:x.toList.isEmpty=true:=by rw [HX1.out,q1,List.isEmpty_nil]
   by_cases q2:bytes v=[]
   ·have r2:v.toList.isEmpty=true:=by rw [HV1.out,q2,List.isEmpty_nil]
    have r2':v.toList=[]:=HV1.out.trans q2
    have HS:=zh (HF.out false (by rw [q1,q2]; rfl))
    clear q1 q2
    go_region
    all_goals go_wp2
    all_goals exact ZbI rfl rfl rfl (((((HBR2.out.far (p:=⟨w.heap.size + 1,2,none⟩) (by simp) (.string v)).set_ 0 (.bool neg)).set_ 1 (.string t)).set_ 2 (.string v)).drewN 1) (((((HE2.out.setCell (Or.inr (by simp)) _).setCell (Or.inr (by simp)) _).setCell (Or.inr (by simp)) _).setCell (Or.inr (by simp)) _).drewN 1) HS.out
   ·obtain ⟨g4,g5,g6⟩:=ZeR q2
    have hb1:=Zjx (b:=v[0]) (n:=48) (by omega)
    have hh1:=Zg0 g4
    have ne2:(bytes v).isEmpty=false:=by simpa using q2
    by_cases q3:v[0]=48
    ·have r3:((v[0].toNat:Int) == 48)=true:=by rw [show (48:Int)=((48:Nat):Int) from rfl,hb1]; simpa using q3
     have r3':((v[0].toNat:Int) != 48)=false:=by rw [bne,r3]; rfl
     have HS:=zh (HF.out false (by rw [q1,ne2,hh1,q3]; rfl))
     clear q1 q2 q3 hb1 hh1 ne2 r3
     go_region
     all_goals go_wp2
     all_goals exact ZbI rfl rfl rfl (((((HBR2.out.far (p:=⟨w.heap.size + 1,2,none⟩) (by simp) (.string v)).set_ 0 (.bool neg)).set_ 1 (.string t)).set_ 2 (.string v)).drewN 1) (((((HE2.out.setCell (Or.inr (by simp)) _).setCell (Or.inr (by simp)) _).setCell (Or.inr (by simp)) _).setCell (Or.inr (by simp)) _).drewN 1) HS.out
    ·have r3:((v[0].toNat:Int) == 48)=false:=by rw [show (48:Int)=((48:Nat):Int) from rfl,hb1]; simpa using q3
     have r3':((v[0].toNat:Int) != 48)=true:=by rw [bne,r3]; rfl
     have n3:((bytes v).head? != some 48)=true:=by rw [hh1]; simpa using q3
     by_cases q4:bytes v=[49]
     ·have r4:(v.toList == [49])=true:=by rw [HV1.out,q4]; rfl
      have r4':(v.toList != [49])=false:=by rw [bne,r4]; rfl
      have HS:=zh (HF.out false (by rw [q1,n3,ne2,q4]; rfl))
      clear q1 q2 q3 q4 hb1 hh1 ne2 n3 r3 r4'
      go_region
      all_goals go_wp2
      all_goals exact ZbI rfl rfl rfl (((((HBR2.out.far (p:=⟨w.heap.size + 1,2,none⟩) (by simp) (.string v)).set_ 0 (.bool neg)).set_ 1 (.string t)).set_ 2 (.string v)).drewN 1) (((((HE2.out.setCell (Or.inr (by simp)) _).setCell (Or.inr (by simp)) _).setCell (Or.inr (by simp)) _).setCell (Or.inr (by simp)) _).drewN 1) HS.out
     ·have r4:(v.toList == [49])=false:=by rw [HV1.out]; simpa using q4
      have r4':(v.toList != [49])=true:=by rw [bne,r4]; rfl
      have HS:=zh (HF.out true (by rw [q1,n3,ne2,show (bytes v != [49])=true by rw [bne]; simpa using q4]; rfl))
      clear q1 q2 q3 q4 hb1 hh1 ne2 n3 r3 r4'
      go_region
      all_goals go_wp2
      all_goals exact ZbI rfl rfl rfl (((((HBR2.out.far (p:=⟨w.heap.size + 1,2,none⟩) (by simp) (.string v)).set_ 0 (.bool neg)).set_ 1 (.string t)).set_ 2 (.string v)).drewN 1) (((((HE2.out.setCell (Or.inr (by simp)) _).setCell (Or.inr (by simp)) _).setCell (Or.inr (by simp)) _).setCell (Or.inr (by simp)) _).drewN 1) HS.out
  ·have r1:x.toList.isEmpty=false:=(ZeR q1).2.2
   have HS:=zh (HF.out false (by rw [show (bytes x).isEmpty=false by simpa using q1]; rfl))
   clear q1
   go_region
   all_goals go_wp2
   all_goals exact ZbI rfl rfl rfl (((((HBR2.out.far (p:=⟨w.heap.size + 1,2,none⟩) (by simp) (.string v)).set_ 0 (.bool neg)).set_ 1 (.string t)).set_ 2 (.string v)).drewN 1) (((((HE2.out.setCell (Or.inr (by simp)) _).setCell (Or.inr (by simp)) _).setCell (Or.inr (by simp)) _).setCell (Or.inr (by simp)) _).drewN 1) HS.out
 ·have d6:((u[0].toNat:Int) != 47)=true:=by
   have:((u[0].toNat:Int) == 47)=false:=by rw [show (47:Int)=((47:Nat):Int) from rfl,hb0]; simpa using c6
   simp [bne,this]
  have HS:Hid (Zbw (bytes s)=(neg,bytes t,bytes ⟨#[]⟩,false)):=by
   unfold Hid; rw [HSP.out,if_neg c1,if_neg c4,if_neg c5,if_pos (by rw [hh0]; simpa using c6)]
  clear c1 c4 c5 c6 hb0 hh0
  go_wp2
  exact ZbI rfl rfl rfl ((((HBR.out.far (p:=⟨w.heap.size + 1,1,none⟩) (by simp) (.string t)).set_ 0 (.bool neg)).set_ 1 (.string t)).set_ 2 (.string ⟨#[]⟩)) ((((HE.out.setCell (Or.inr (by simp)) _).setCell (Or.inr (by simp)) _).setCell (Or.inr (by simp)) _).setCell (Or.inr (by simp)) _) HS.out
end Go.Proofs.YthlipnahcbcjkaaGreatDoor

namespace Go.Proofs.YthlipnahcbcjkaaGreatDoor
open Go.RowKit Go.Sort
theorem ZbC.mono {w w0:World} {A A0:Option Addr} {l l':List UInt8} {e:Ending} {w':World} (h:ZbC w A l e w') (hl:l=l') (hF:Fr (Zad A0) w0 w) (hA:∀ b,Zad A b→Zad A0 b∨w0.heap.size≤b):ZbC w0 A0 l' e w':=by
 subst hl
 obtain ⟨A',cap',rfl,hB,hF',hA'⟩:=h
 refine ⟨A',cap',rfl,hB,hF.next hF' (fun i hi hb=>?_),fun b hb=>?_⟩
 ·rcases hA i hb with h | h
  ·exact h
  ·omega
 ·rcases hA' b hb with h | h
  ·exact hA b h
  ·exact Or.inr (Nat.le_trans hF.size h)
set_option maxHeartbeats 2000000 in
theorem Zik (A:Option Addr) (cap n:Nat) (l:List UInt8) (xv:Value) (w:World) (hx:Zaf w xv 0) (hn:l.length=n) (hB:TBuf w A cap l) (hl:n≤1099511627776) :
 Calls Tryz.prog 226 #[.slice A n cap,xv] w (ZbC w A (l ++ Lib.decDigits 0)):=by
 obtain ⟨A2,xs,c,rfl,_,_,h2,h3,h4⟩:=hx
 have h5:=Zaz h2 h3
 rw [h4,ZfJ] at h5
 obtain rfl:xs=[]:=List.length_eq_zero_iff.1 h5
 have HB:=zh hB
 have HN:=zh hn
 clear hB hn h2 h3 h4 h5
 go_enter Tryz.func226,Tryz.ntmps226
 go_wp2_with (at_builtin
              refine Zay rfl _ _ _ rfl _ .u8 1 Tryz.underlying196 ZdE A (some ⟨w.heap.size,0,none⟩) n 1 cap 1 rfl rfl (nats l) (nats [48]) (by rw [ZaS]; exact HN.out) rfl (HB.out.ext ((Fr.refl _ _).alloc _)) ?_ (by simp only [maxLen]; omega) (by omega) ?_
              ·exact (Own.new w 5 .u8 [48] []).shows0
              intro A1 cap1 w2 hB1 hF1 hA1
              have HB1:=zh hB1
              have HF1:=zh hF1
              have HA1:=zh hA1
              clear hB1 hF1 hA1)
 go_ret
 have e0:Lib.decDigits 0=[48]:=by rw [Lib.decDigits,dif_pos (by omega)]; rfl
 rw [e0]
 refine ⟨A1,cap1,?_,?_,?_,?_⟩
 ·rw [List.length_append,HN.out]; rfl
 ·show Buf _ _ _ _ _ (nats (l ++ [48]))
  rw [Zc5]; exact HB1.out
 ·exact ((Fr.refl _ _).alloc _).trans HF1.out
 ·intro b hb
  rcases HA1.out b hb with h | h
  ·exact Or.inl h
  ·exact Or.inr (by simp at h; omega)
set_option maxHeartbeats 2000000 in
theorem Zi1 (A:Option Addr) (cap n x:Nat) (l:List UInt8) (xv:Value) (w:World) (hg:Glob w) (hx:Zaf w xv x) (h0:0 < x) (hW:x < W64) (hn:l.length=n) (hB:TBuf w A cap l) (hl:n≤1099511627776) :
 Calls Tryz.prog 226 #[.slice A n cap,xv] w (ZbC w A (l ++ Lib.decDigits x)):=by
 obtain ⟨A2,xs,c,rfl,_,h1,h2,h3,h4⟩:=hx
 have h5:=Zaz h2 h3
 rw [h4] at h5
 have h6:=ZcB.2 hW
 have h7:=ZeY h0
 obtain ⟨x0,rfl⟩:∃ x0,xs=[x0]:=by
  match xs,(by omega:xs.length=1) with
  | [y],_=>exact ⟨y,rfl⟩
 simp at h4
 subst h4
 obtain ⟨b,off,rfl,hb,hc0⟩:=h1.at (i:=0) (by simp)
 simp at hc0
 have hne:=Nat.ne_of_lt hb
 have HB:=zh hB
 have HN:=zh hn
 have HG:=zh hg
 have HW:=zh hW
 generalize hm:l ++ Lib.decDigits x0=m
 have HM:=zh hm
 clear hB hn hg hW h1 h2 h3 h5 h6 h7 hm
 go_enter Tryz.func226,Tryz.ntmps226
 go_wp2_with fail
 refine (ZjC A cap n x0 l w HG.out HW.out HN.out HB.out hl).mono ?_
 rw [HM.out]
 rintro e w' ⟨A1,cap1,rfl,hB,hF,hA⟩
 have HB:=zh hB
 have HF:=zh hF
 have HA:=zh hA
 clear hB hF hA
 go_wp2
 go_ret
 exact ⟨A1,cap1,rfl,HB.out,HF.out,HA.out⟩
def Zcb (w0:World) (A:Option Addr):Prop:=∀ b,Zad A b→w0.heap.size≤b
theorem Zcb.nil {w0:World}:Zcb w0 none:=fun b hb=>by obtain ⟨a,ha,_⟩:=hb; cases ha
theorem Zcb.next {w0 w:World} {A A':Option Addr} (h:Zcb w0 A) (Q:Ext w0 w) (hA:∀ b,Zad A' b→Zad A b∨w.heap.size≤b):Zcb w0 A':=fun b hb=>by
 rcases hA b hb with k | k
 ·exact h b k
 ·exact Nat.le_trans Q.size k
theorem Zcb.ext {w0 w w':World} {A:Option Addr} (h:Zcb w0 A) (Q:Ext w0 w) (hF:Fr (Zad A) w w'):Ext w0 w':=Q.next hF (fun i hi hb=>by have:=h i hb; omega)
end Go.Proofs.YthlipnahcbcjkaaGreatDoor

namespace Go.Proofs.YthlipnahcbcjkaaGreatDoor
open Go.RowKit Go.Sort
noncomputable def T19:Nat:=Classical.choose (p:=fun n:Nat=>n=10000000000000000000) ⟨_,rfl⟩
theorem Zha:T19=10000000000000000000:=Classical.choose_spec (p:=fun n:Nat=>n=10000000000000000000) ⟨_,rfl⟩
theorem ZdR:0 < T19:=by have:=Zha; omega
theorem Zi2:T19 < W64:=by rw [Zha,Zal]; omega
theorem Zel:T19=10 ^ 19:=by rw [Zha]
theorem Zl7:((T19:Nat):Int)=10000000000000000000:=by rw [Zha]; rfl
theorem Zot (hi lo:Nat) (w:World) (h1:hi < T19) (hlo:lo < W64) :
 Calls Tryz.prog 258 #[.int .u64 (hi:Int), .int .u64 (lo:Int), .int .u64 10000000000000000000] w fun e w'=>e=.returned (.tuple #[.int .u64 (divQ hi lo T19:Nat), .int .u64 (divR hi lo T19:Nat)])∧∃ n,w'=w.drewN n:=by
 have h:=Zfr hi lo T19 w h1 Zi2 hlo
 rw [Zl7] at h
 exact h
def Ch19 (n:Nat) (xs:List Nat) (m:Nat):Prop:=Dig T19 xs∧n=val T19 xs + T19 ^ xs.length * m∧(m=0→Trim xs)
theorem Ch19.start (n:Nat):Ch19 n [] n:=⟨Dig.nil,by simp,fun _=>Trim.nil⟩
theorem Znx {xs:List Nat} {r:Nat} (h:r≠0):Trim (xs ++ [r]):=fun k hk=>by
 simp at hk
 subst hk
 simpa using h
theorem Ch19.step {n m:Nat} {xs:List Nat} (h:Ch19 n xs m) (hm:0 < m):Ch19 n (xs ++ [m % T19]) (m / T19):=by
 obtain ⟨h1,h2,_⟩:=h
 refine ⟨h1.append (Dig.nil.cons (Nat.mod_lt _ ZdR)),?_,fun h0=>Znx ?_⟩
 ·rw [Zbn,List.length_append,List.length_singleton,Nat.pow_succ,Nat.add_assoc,Nat.mul_assoc,← Nat.mul_add,ZcK,Zc1,Nat.mul_zero,Nat.add_zero,Nat.mod_add_div]
  exact h2
 ·have:=Nat.div_add_mod m T19
  rw [h0] at this
  omega
theorem Ch19.len {n m:Nat} {xs:List Nat} (h:Ch19 n xs m) (hm:0 < m):xs.length < 2 * wl n:=by
 obtain ⟨_,h2,_⟩:=h
 rcases Nat.lt_or_ge xs.length (2 * wl n) with hl | hl
 ·exact hl
 ·have h3:T19 ^ (2 * wl n)≤T19 ^ xs.length:=Nat.pow_le_pow_right ZdR hl
  have h4:T19 ^ xs.length * 1≤T19 ^ xs.length * m:=Nat.mul_le_mul_left _ hm
  have h5:W64 ^ wl n≤T19 ^ (2 * wl n):=by
   rw [Nat.pow_mul]; exact Nat.pow_le_pow_left (by rw [Zal,Zha]; decide) _
  have h6:=Ziw n
  generalize T19 ^ xs.length=P at *
  generalize T19 ^ (2 * wl n)=Q at *
  omega
noncomputable def ZbZ (cs:List Nat) (width k:Nat):List UInt8:=if k=cs.length then [] else ZaL (val T19 (cs.drop k)) (width - 19 * k)
theorem ZeB (cs:List Nat) (width:Nat):ZbZ cs width cs.length=[]:=if_pos rfl
theorem Zny {cs:List Nat} (h:Trim cs) (j:Nat):Trim (cs.drop j):=fun k hk=>by
 rw [List.length_drop] at hk
 rw [List.getElem?_drop]
 exact h (j + k) (by omega)
theorem ZlQ {cs:List Nat} {width j c:Nat} (hl:cs.length=j + 1) (ht:Trim cs) (hc:cs[j]?.getD 0=c):ZbZ cs width j=List.replicate (width - 19 * j - (Lib.decDigits c).length) 48 ++ Lib.decDigits c:=by
 have h0:=ht j hl
 rw [hc] at h0
 rw [ZbZ,if_neg (by omega),ZaF j (by omega),hc,List.drop_of_length_le (by omega),Zc1,Nat.mul_zero,Nat.add_zero,ZaL,Zcv (by omega)]
theorem ZmH {cs:List Nat} {width j c:Nat} (hl:j + 1 < cs.length) (hd:Dig T19 cs) (ht:Trim cs) (hc:cs[j]?.getD 0=c):ZbZ cs width j=ZbZ cs width (j + 1) ++ List.replicate (19 - (Lib.decDigits c).length) 48 ++ Lib.decDigits c:=by
 have hcl:c < T19:=hc ▸ hd.getD ZdR j
 have hp:0 < val T19 (cs.drop (j + 1)):=ZdV (Zny ht _) ZdR (fun e=>by
  have:=congrArg List.length e
  simp at this; omega)
 rw [ZbZ,ZbZ,if_neg (by omega),if_neg (by omega),ZaF j (by omega),hc,List.append_assoc,← Zos (by omega) (by rw [← Zel]; exact hcl)]
 rw [show c + T19 * val T19 (cs.drop (j + 1))=val T19 (cs.drop (j + 1)) * 10 ^ 19 + c by rw [← Zel,Nat.mul_comm]; omega]
 rw [Zfd (by rw [← Zel]; exact hcl) (Or.inl hp)]
 congr 2
theorem Znz {cs:List Nat} (width k:Nat) (hd:Dig T19 cs):(ZbZ cs width k).length≤width + 19 * cs.length:=by
 rw [ZbZ]
 split
 ·simp
 ·rw [ZgH]
  have h1:=Za6 (hd.drop k)
  rw [Zel,← Nat.pow_mul] at h1
  have h2:=ZeN _ _ h1
  rw [← Zel,List.length_drop] at h2
  omega
theorem Zp1 {c:Nat} (h:c < T19):(Lib.decDigits c).length≤19:=by
 rcases Nat.eq_zero_or_pos c with h0 | h0
 ·subst h0; rw [Lib.decDigits_one (by omega)]; simp
 ·have:=ZeN 19 c (by rw [← Zel]; exact h)
  rwa [Zcv h0] at this
theorem Zpm (c:Nat):0 < (Lib.decDigits c).length:=by rw [Lib.decDigits_length]; exact Lib.nDigits_pos c
def Zd7 (xs:List Nat) (u k:Nat) (qs:List Nat) (r:Nat):Prop:=Zdu xs u k qs r∧qs.take k=xs.take k
theorem Zd7.start (xs:List Nat) {u:Nat} (hd:Dig W64 xs) (hu:0 < u):Zd7 xs u xs.length xs 0 :=
 ⟨⟨rfl,hd,hu,by rw [List.drop_of_length_le (Nat.le_refl _)]; simp⟩,rfl⟩
theorem Zd7.at {xs qs:List Nat} {u k r:Nat} (h:Zd7 xs u (k + 1) qs r):qs[k]?.getD 0=xs[k]?.getD 0:=by
 have:=congrArg (fun l:List Nat=>l[k]?.getD 0) h.2
 simpa [List.getElem?_take] using this
theorem Zd7.step {xs qs:List Nat} {u k r x:Nat} (h:Zd7 xs u (k + 1) qs r) (hk:k < xs.length) (hx:qs[k]?.getD 0=x) (hxW:x < W64):Zd7 xs u k (qs.set k (divQ r x u)) (divR r x u):=by
 refine ⟨h.1.step hk (by rw [← h.at]; exact hx) hxW,?_⟩
 rw [List.take_set_of_le (Nat.le_refl _)]
 have:=congrArg (List.take k) h.2
 simpa [List.take_take] using this
def Smp (w wr:World) (x:Nat) (ws cs:List Nat) (Aw:Option Addr) (cw:Nat) (Ac:Option Addr) (cc:Nat):Prop :=
 Buf .u64 88 wr Aw cw ws∧Dig W64 ws∧Trim ws∧Buf .u64 88 wr Ac cc cs∧Ext w wr∧Ch19 x cs (val W64 ws)∧(∀ b,Zad Aw b→w.heap.size≤b)∧(∀ b,Zad Ac b→w.heap.size≤b)∧(∀ b,Zad Aw b→¬ Zad Ac b)∧ws.length≤wl x∧cs.length≤2 * wl x
def Wrt (w wr:World) (A:Option Addr) (L:List UInt8) (cs:List Nat) (Ac:Option Addr) (cc bb:Nat) (bs:List Nat) (t:Nat) (A':Option Addr) (cap':Nat):Prop :=
 TBuf wr A' cap' L∧L.length=t∧Buf .u64 88 wr Ac cc cs∧Room .u8 315 wr bb 20 bs∧Fr (Zad A) w wr∧(∀ b,Zad A' b→Zad A b∨w.heap.size≤b) ∧
  ¬ Zad A' bb∧w.heap.size≤bb∧(∀ b,Zad Ac b→¬ Zad A' b∧b≠bb∧w.heap.size≤b)
section
variable {w wr w2:World} {A:Option Addr} {L:List UInt8} {cs:List Nat} {Ac:Option Addr} {cc bb t:Nat} {bs:List Nat} {A' A2:Option Addr} {cap' cap2:Nat}
theorem Wrt.app (h:Wrt w wr A L cs Ac cc bb bs t A' cap') {news:List UInt8} {m:Nat} (hm:news.length=m)
 (hB:Buf .u8 5 w2 A2 cap2 (nats L ++ nats news)) (hF:Fr (Zad A') wr w2) (hA:∀ b,Zad A2 b→Zad A' b∨wr.heap.size≤b):Wrt w w2 A (L ++ news) cs Ac cc bb bs (t + m) A2 cap2:=by
 obtain ⟨h1,h2,h3,h4,h5,h6,h7,h8,h9⟩:=h
 have hbl:=h4.1.lt
 refine ⟨?_,by rw [List.length_append,h2,hm],h3.fr hF (fun b hb=>(h9 b hb).1),h4.fr hF h7,h5.next hF (fun i hi hb=>?_),?_,?_,h8,?_⟩
 ·show Buf _ _ _ _ _ (nats (L ++ news))
  rw [Zc5]; exact hB
 ·rcases h6 i hb with k | k
  ·exact k
  ·omega
 ·intro b hb
  rcases hA b hb with k | k
  ·exact h6 b k
  ·have:=h5.size; exact Or.inr (by omega)
 ·intro hb
  rcases hA bb hb with k | k
  ·exact h7 k
  ·omega
 ·intro b hb
  refine ⟨fun hb2=>?_,(h9 b hb).2⟩
  rcases hA b hb2 with k | k
  ·exact (h9 b hb).1 k
  ·have:=h3.lt hb; omega
theorem Wrt.zero {o:Obj} (h:Wrt w wr A L cs Ac cc bb bs t A' cap')
 (hB:Buf .u8 5 w2 A2 cap2 (nats L ++ [48])) (hF:Fr (Zad A') (wr.alloc o) w2) (hA:∀ b,Zad A2 b→Zad A' b∨b=(wr.alloc o).heap.size):Wrt w w2 A (L ++ [48]) cs Ac cc bb bs (t + 1) A2 cap2 :=
 h.app (news:=[48]) rfl hB (((Fr.refl (Zad A') wr).alloc o).trans hF) (fun b hb=>(hA b hb).imp id (fun k=>by simp at k; omega))
theorem Wrt.buf (h:Wrt w wr A L cs Ac cc bb bs t A' cap') {ds:List Nat} (hR:Room .u8 315 w2 bb 20 ds) (hF:Fr (· = bb) wr w2):Wrt w w2 A L cs Ac cc bb ds t A' cap':=by
 obtain ⟨h1,h2,h3,h4,h5,h6,h7,h8,h9⟩:=h
 refine ⟨h1.fr hF (fun b hb e=>by subst e; exact h7 hb),h2,h3.fr hF (fun b hb=>(h9 b hb).2.1),hR,h5.next hF (fun i hi e=>by omega),h6,h7,h8,h9⟩
theorem Wrt.ret (h:Wrt w wr A L cs Ac cc bb bs t A' cap'):ZbC w A L (.returned (.slice A' t cap')) wr :=
 ⟨A',cap',by rw [h.2.1],h.1,h.2.2.2.2.1,h.2.2.2.2.2.1⟩
end
end Go.Proofs.YthlipnahcbcjkaaGreatDoor

namespace Go.Proofs.YthlipnahcbcjkaaGreatDoor
open Go.RowKit Go.Sort
theorem Buf.takeK {k:IntKind} {e:TypeId} {w:World} {A:Option Addr} {cap:Nat} {xs:List Nat} (h:Buf k e w A cap xs) (n:Nat):Buf k e w A cap (xs.take n):=by
 rcases h with ⟨h1,rfl,h3⟩ | ⟨b,h1,h2,h3,h4,h5⟩
 ·exact Or.inl ⟨h1,by simp,h3⟩
 ·exact Or.inr ⟨b,h1,h2.take n,h3,by rw [List.length_take]; omega,h5⟩
theorem Buf.openK {k:IntKind} {e:TypeId} {w:World} {A:Option Addr} {cap:Nat} {xs:List Nat} (h:Buf k e w A cap xs) (hne:xs≠[]):∃ b,A=some ⟨b,0,none⟩∧Own k e w b xs∧ZbD e w b cap∧xs.length≤cap∧cap≤maxLen:=by
 rcases h with ⟨_,h,_⟩ | h
 ·exact absurd h hne
 ·exact h
theorem ZoQ (b:Nat):¬ Zad none b:=fun hb=>by obtain ⟨a,ha,_⟩:=hb; cases ha
theorem Smp.next {w wr w2 w3:World} {x b cw cc cc2 r:Nat} {ws cs qs:List Nat} {Ac Ac2:Option Addr} {o:Obj} (h:Smp w wr x ws cs (some ⟨b,0,none⟩) cw Ac cc) (hne:ws≠[]) (hI:Zd7 ws T19 0 qs r) (hO:Own .u64 88 w2 b qs) (hC:ZbD 88 w2 b cw)
 (hF:Fr (· = b) wr w2) (hB:Buf .u64 88 w3 Ac2 cc2 (cs ++ [r])) (hF3:Fr (Zad Ac) (w2.alloc o) w3) (hA3:∀ c,Zad Ac2 c→Zad Ac c∨c=(w2.alloc o).heap.size) :
 Smp w w3 x (ZaY qs) (cs ++ [r]) (some ⟨b,0,none⟩) cw Ac2 cc2:=by
 obtain ⟨h1,h2,h3,h4,h5,h6,h7,h8,h9,h10,h11⟩:=h
 have hbA:Zad (some ⟨b,0,none⟩) b:=⟨_,rfl,rfl⟩
 have hb:=h7 b hbA
 have hbl:=hO.lt
 have hF':Fr (Zad Ac) w2 w3:=((Fr.refl (Zad Ac) w2).alloc o).trans hF3
 have hD:=hI.1.done
 have hlen:qs.length=ws.length:=hI.1.1
 have hcap:ws.length≤cw∧cw≤maxLen:=by
  rcases h1 with ⟨h,_⟩ | ⟨b',hb',_,_,k⟩
  ·cases h
  ·exact k
 have hm:0 < val W64 ws:=ZdV h3 Zai hne
 refine ⟨?_,Zc2 hI.1.2.1,ZcA qs,hB,?_,?_,h7,?_,?_,?_,?_⟩
 ·exact (Buf.takeK (Or.inr ⟨b,rfl,hO,hC,by omega,hcap.2⟩) _).fr hF' (fun c hc=>by
   obtain ⟨a,ha,rfl⟩:=hc; injection ha with ha; subst ha; exact h9 _ hbA)
 ·exact (h5.next hF (fun i hi e=>by subst e; omega)).next hF' (fun i hi hc=>by have:=h8 i hc; omega)
 ·have:=h6.step hm
  rw [← hD.1,← hD.2] at this
  rwa [Za5]
 ·intro c hc
  rcases hA3 c hc with k | k
  ·exact h8 c k
  ·have:=h5.size; have:=hF.size; simp at k; omega
 ·intro c hc hc2
  obtain ⟨a,ha,rfl⟩:=hc
  injection ha with ha; subst ha
  rcases hA3 _ hc2 with k | k
  ·exact h9 _ hbA k
  ·simp at k; omega
 ·rw [Zbd]
  have:=ZdY qs qs.length
  omega
 ·have:=h6.len hm
  rw [List.length_append,List.length_singleton]; omega
theorem Zp2 {w w':World} {b o bb:Nat} {u:Value} (hc:w.cell? ⟨b,o,none⟩=some u) (hne:b≠bb) (hF:Fr (· = bb) w.drew w'):w'.cell? ⟨b,o,none⟩=some u :=
 (hF.cell (p:=⟨b,o,none⟩) (World.block_lt_of_cell? w _ hc) hne).trans hc
theorem Zlk {w wb:World} (h:w.alloc (.cells (Array.replicate 20 (.int .u8 0)) 315)=wb):Room .u8 315 wb w.heap.size 20 []:=by
 subst h
 refine ⟨⟨List.replicate 20 (.int .u8 0),fun v hv=>⟨0,List.eq_of_mem_replicate hv⟩,?_⟩,_,heap_alloc_new w _,by simp⟩
 rw [heap_alloc_new]; rfl
set_option maxHeartbeats 4000000 in
theorem Zfe (A:Option Addr) (cap n x width:Nat) (l:List UInt8) (xv:Value) (w0 w:World) (Q:Ext w0 w) (hg:Glob w0) (hA:Zcb w0 A) (hx:Zaf w xv x) (hwl:wl x≤65536) (hn:l.length=n) (hB:TBuf w A cap l) (hl:n≤274877906944) (hwid:width≤274877906944) :
 Calls Tryz.prog 302 #[.slice A n cap,xv, .int .i64 (width:Int)] w (ZbC w A (l ++ ZaL x width)):=by
 obtain ⟨A2,xs,c,rfl,_,h1,h2,h3,h4⟩:=hx
 have h5:=Zaz h2 h3
 rw [h4] at h5
 have HX:=zh h1
 have HD:=zh h2
 have HT:=zh h3
 have HV:=zh h4
 have HL5:=zh h5
 have HE:=zh Q
 have HG:=zh hg
 have HA:=zh hA
 have HB:=zh hB
 have HN:=zh hn
 have hk:xs.length≤65536:=by omega
 have HWL:=zh hwl
 clear h1 h2 h3 h4 h5 Q hg hA hB hn hwl
 go_enter Tryz.func302,Tryz.ntmps302
 go_wp2_with fail
 refine (ZbG A2 xs xs.length c w rfl HX.out (by omega)).mono ?_
 rintro e w1 ⟨A1,cap1,rfl,hB1,hF1,hN1⟩
 have HS0:Hid (Smp w w1 x xs [] A1 cap1 none 0):=⟨hB1,HD.out,HT.out,Buf.nil,hF1,by rw [HV.out]; exact Ch19.start x,hN1,fun b hb=>(ZoQ b hb).elim,fun b _ hb=>ZoQ b hb,by rw [HL5.out]; exact Nat.le_refl _,by simp⟩
 clear hB1 hF1 hN1
 go_wp2
 go_loopw [7,8] (fun wv cv wr=>∃ (ws cs:List Nat) (Aw:Option Addr) (cw:Nat) (Ac:Option Addr) (cc:Nat),wv=.slice Aw ws.length cw∧cv=.slice Ac cs.length cc∧Hid (Smp w wr x ws cs Aw cw Ac cc)) (fun _ cv _=>match cv with | .slice _ k _=>2 * wl x + 1 - k | _=>0)
 case atStart=>exact ⟨xs,[],A1,cap1,none,0,rfl,rfl,HS0⟩
 case round =>
  clear HS0
  obtain ⟨ws,cs,Aw,cw,Ac,cc,rfl,rfl,hS⟩:=hrel
  have hwx:=HWL.out
  have hwlen:ws.length≤65536:=by have:=hS.out.2.2.2.2.2.2.2.2.2.1; omega
  have hclen:cs.length≤131072:=by have:=hS.out.2.2.2.2.2.2.2.2.2.2; omega
  by_cases hne:ws=[]
  ·subst hne
   obtain ⟨_,_,_,hBc,hEx,hCh,_,hAc,_,_,_⟩:=hS.out
   have HTc:Hid (Trim cs):=hCh.2.2 (by simp)
   have HVc:Hid (x=val T19 cs):=by have:=hCh.2.1; unfold Hid; simpa using this
   have HDc:Hid (Dig T19 cs):=hCh.1
   have HBc:=zh hBc
   have HEx:=zh hEx
   have HAc:=zh hAc
   have hal:Tryz.prog.arrayLen 315=20:=by simp [Program.arrayLen,Tryz.underlying315]
   clear hBc hEx hCh hAc hS hwlen
   go_wp2
   generalize hwb:World.alloc wr _=wb
   have hRm:=Zlk hwb
   have hEb:Ext wr wb:=hwb ▸ (Fr.refl _ _).alloc _
   have hbb:=HEx.out.size
   have HW0:Hid (Wrt w wb A (l ++ ZbZ cs width cs.length) cs Ac cc wr.heap.size [] n A cap):=by
    rw [ZeB,List.append_nil]
    refine ⟨HB.out.ext (HEx.out.trans hEb),HN.out,HBc.out.ext hEb,hRm,((HEx.out.trans hEb).mono (fun _ _ h=>h.elim)),fun b hb=>Or.inl hb,fun hb=>?_,hbb,fun b hb=>⟨fun hb2=>?_,?_,HAc.out b hb⟩⟩
    ·have:=HB.out.lt hb; omega
    ·have:=HB.out.lt hb2; have:=HAc.out b hb; omega
    ·have:=HBc.out.lt hb; omega
   clear hwb hRm hEb HBc HEx HAc HB
   generalize wr.heap.size=bb at *
   have hsl:∀ W,(Instr.sliceAt 315 (.pointer (some ⟨bb,0,none⟩)) none (some (.int .i64 0)) none).run Tryz.prog W=.ok (.slice (some ⟨bb,0,none⟩) 0 20) W:=fun W=>by
    rw [run_sliceAt_array_h W 315 ⟨bb,0,none⟩ (by simp [Program.arrayLen,Program.elem,Tryz.underlying315]) .i64 0 (by omega) (by rw [hal]; omega)]
    go_simp
   go_loopw [0,12,13] (fun tv fv iv wq=>∃ (k t:Nat) (A':Option Addr) (cap':Nat),k≤cs.length∧iv=.int .i64 ((k:Int) - 1)∧tv=.slice A' t cap'∧fv=.bool (decide (k=cs.length))∧Hid (Wrt w wq A (l ++ ZbZ cs width k) cs Ac cc bb [] t A' cap')) (fun _ _ iv _=>(intOf iv + 1).toNat)
   case atStart=>exact ⟨cs.length,n,A,cap,Nat.le_refl _,rfl,rfl,by simp,HW0⟩
   case round =>
    clear HW0
    obtain ⟨k,t,A',cap',hk',rfl,rfl,rfl,hS⟩:=hrel
    by_cases hlt:0 < k
    ·obtain ⟨j,rfl⟩:∃ j,k=j + 1:=⟨k - 1,by omega⟩
     have ej:(((j + 1:Nat):Int) - 1)=(j:Int):=by omega
     rw [ej]
     clear ej
     have hjc:j < cs.length:=by omega
     obtain ⟨bc,rfl,hOc,_,_,_⟩:=hS.out.2.2.1.openK (by intro e; rw [e] at hjc; simp at hjc)
     have hcc:=hOc.cell hjc
     obtain ⟨cx,ecx⟩:∃ cx,cs[j]?.getD 0=cx:=⟨_,rfl⟩
     rw [ecx] at hcc
     have Hcx:Hid (cx < T19):=ecx ▸ HDc.out.getD ZdR j
     have HcW:Hid (cx < W64):=Nat.lt_trans Hcx.out Zi2
     have HRm:Hid (Room .u8 315 wr bb 20 []):=hS.out.2.2.2.1
     have HGr:Hid (Glob wr):=HG.out.ext (HA.out.ext HE.out hS.out.2.2.2.2.1)
     have hneR:bc≠bb:=(hS.out.2.2.2.2.2.2.2.2 bc ⟨_,rfl,rfl⟩).2.1
     clear hOc
     go_wp2_with fail
     go_region_held3 (fun w'=>w'.cell? ⟨bc,j,none⟩=some (.int .u64 (cx:Int)))
      (first | exact hcc | exact Zp2 hcc hneR (by assumption))
      (first
       | (go_at_call 272
          refine (Zi0 315 bb 20 cx _ (HGr.out.ext (Fr.refl _ _).drew) HcW.out (HRm.out.ext (Fr.refl _ _).drew) (by omega)).mono ?_
          rintro e w1 ⟨rfl,hR1,hF1⟩))
     have HdsL:Hid ((Lib.decDigits cx).length≤19):=Zp1 Hcx.out
     have HdsP:=Zpm cx
     have hdl:=HdsL.out
     have HFst:=fun (h:cs.length=j + 1)=>zh (ZlQ (width:=width) h HTc.out ecx)
     have HNxt:=fun (h:j + 1 < cs.length)=>zh (ZmH (width:=width) h HDc.out HTc.out ecx)
     have HW1:Hid (Wrt w w1 A (l ++ ZbZ cs width (j + 1)) cs (some ⟨bc,0,none⟩) cc bb (nats (Lib.decDigits cx)) t A' cap'):=hS.out.buf hR1 (Fr.undrew hF1)
     have htl:=hS.out.2.1
     have hol:=Znz width (j + 1) HDc.out
     have htb:t≤549755813888 + 2490368:=by rw [List.length_append] at htl; have:=HN.out; omega
     generalize Lib.decDigits cx=ds at *
     clear hR1 hF1 ecx hcc Hcx HcW HRm HGr hS hsl hal htl hol
     have hdec0:decide (j=cs.length)=false:=by simp; omega
     by_cases hfst:j + 1=cs.length
     ·rw [decide_eq_true hfst]
      have HO1:=HFst hfst.symm
      rw [hfst,ZeB,List.append_nil] at HW1
      clear HFst HNxt
      obtain ⟨size,hsz⟩:∃ size:Nat,max ds.length (width - 19 * j)=size:=⟨_,rfl⟩
      obtain ⟨m,hm⟩:∃ m:Nat,width - 19 * j - ds.length=m:=⟨_,rfl⟩
      have hmx:max (ds.length:Int) ((width:Int) - 19 * (j:Int))=(size:Int):=by
       rw [Nat.max_def] at hsz; rw [Int.max_def]; split at hsz<;>split<;>omega
      have hsub:(size:Int) - (ds.length:Int)=(m:Int):=by
       rw [Nat.max_def] at hsz; split at hsz<;>omega
      have hszB:size≤274877906944 + 19:=by rw [Nat.max_def] at hsz; split at hsz<;>omega
      have hmB:m≤274877906944:=by omega
      obtain ⟨L0,eL0⟩:∃ L0,L0=l:=⟨l,rfl⟩
      have HO:Hid (l ++ ZbZ cs width j=L0 ++ List.replicate m 48 ++ ds):=by unfold Hid; rw [HO1.out,hm,eL0,List.append_assoc]
      rw [← eL0] at HW1
      clear HO1 hm eL0 hsz hfst
      go_wp2
      clear hmx hsub
      go_loopw [0,71] (fun tv iv wq=>∃ (i t2:Nat) (A2:Option Addr) (cap2:Nat),i≤m∧iv=.int .i64 (i:Int)∧tv=.slice A2 t2 cap2∧t2≤t + i∧Hid (Wrt w wq A (L0 ++ List.replicate i 48) cs (some ⟨bc,0,none⟩) cc bb (nats ds) t2 A2 cap2)) (fun _ iv _=>m - (intOf iv).toNat)
      case atStart=>exact ⟨0,t,A',cap',Nat.zero_le _,rfl,rfl,by omega,by unfold Hid; rw [List.replicate_zero,List.append_nil]; exact HW1.out⟩
      case round =>
       clear HW1
       obtain ⟨i,t2,A2,cap2,him,rfl,rfl,ht2,hS⟩:=hrel
       have hB2:Hid (Buf .u8 5 wr A2 cap2 (nats (L0 ++ List.replicate i 48))):=hS.out.1
       have hL2:Hid ((nats (L0 ++ List.replicate i 48)).length=t2):=by unfold Hid; rw [ZaS]; exact hS.out.2.1
       by_cases hlt:i < m
       ·have hSh:Hid (Zan .u8 (wr.alloc (.cells #[.int .u8 48] 5)) (some ⟨wr.heap.size,0,none⟩) [48]):=(Own.new wr 5 .u8 [48] []).shows0
        go_wp2_with (at_builtin; refine Hid.out ?_)
        refine zh ?_
        refine Zay rfl _ _ _ rfl _ .u8 1 Tryz.underlying196 ZdE A2 (some ⟨wr.heap.size,0,none⟩) t2 1 cap2 1 rfl rfl (nats (L0 ++ List.replicate i 48)) [48] hL2.out rfl (hB2.out.ext ((Fr.refl _ _).alloc _)) hSh.out (by simp only [maxLen]; omega) (by omega) ?_
        intro A3 cap3 w3 hB3 hF3 hA3
        have HNew:Hid (Wrt w w3 A (L0 ++ List.replicate (i + 1) 48) cs (some ⟨bc,0,none⟩) cc bb (nats ds) (t2 + 1) A3 cap3):=by
         have h:=hS.out.zero hB3 hF3 hA3
         unfold Hid
         rw [List.replicate_succ',← List.append_assoc]; exact h
        clear hB3 hF3 hA3 hSh hB2 hL2
        go_wp2
        go_roundw
        case rel=>exact ⟨i + 1,t2 + 1,A3,cap3,by omega,by go_num,rfl,by omega,HNew⟩
        case measure=>simp [intOf]; omega
       ·obtain rfl:i=m:=by omega
        have hSh:Hid (Zan .u8 wr (some ⟨bb,0,none⟩) (nats ds)):=hS.out.2.2.2.1.1.shows0
        go_wp2_with (at_builtin; refine Hid.out ?_)
        refine zh ?_
        refine Zay rfl _ _ _ rfl _ .u8 1 Tryz.underlying196 ZdE A2 (some ⟨bb,0,none⟩) t2 ds.length cap2 20 rfl rfl (nats (L0 ++ List.replicate i 48)) (nats ds) hL2.out (ZaS ds) hB2.out hSh.out (by simp only [maxLen]; omega) (by omega) ?_
        intro A3 cap3 w3 hB3 hF3 hA3
        have HNew:Hid (Wrt w w3 A (l ++ ZbZ cs width j) cs (some ⟨bc,0,none⟩) cc bb [] (t2 + ds.length) A3 cap3):=by
         have h:=hS.out.app (news:=ds) rfl hB3 hF3 (fun b hb=>(hA3 b hb).imp id (fun k=>by omega))
         unfold Hid
         rw [HO.out]
         exact h.buf h.2.2.2.1.nil (Fr.refl _ _)
        clear hB3 hF3 hA3 hSh hB2 hL2
        go_wp2
        go_roundw
        case rel=>((repeat apply Exists.intro); exact ⟨⟨j,t2 + ds.length,A3,cap3,by omega,rfl,rfl,by rw [hdec0],HNew⟩,rfl⟩)
        case measure=>simp [intOf]
     ·rw [decide_eq_false hfst]
      have HO1:=HNxt (by omega)
      clear HFst HNxt
      obtain ⟨m,hm⟩:∃ m:Nat,19 - ds.length=m:=⟨_,rfl⟩
      have hmx:True:=trivial
      have hsub:19 - (ds.length:Int)=(m:Int):=by omega
      have hmB:m≤274877906944:=by omega
      obtain ⟨L0,eL0⟩:∃ L0,L0=l ++ ZbZ cs width (j + 1):=⟨_,rfl⟩
      have HO:Hid (l ++ ZbZ cs width j=L0 ++ List.replicate m 48 ++ ds):=by unfold Hid; rw [HO1.out,hm,eL0]; simp only [List.append_assoc]
      rw [← eL0] at HW1
      clear HO1 hm eL0 hfst
      go_wp2
      clear hmx hsub
      go_loopw [0,71] (fun tv iv wq=>∃ (i t2:Nat) (A2:Option Addr) (cap2:Nat),i≤m∧iv=.int .i64 (i:Int)∧tv=.slice A2 t2 cap2∧t2≤t + i∧Hid (Wrt w wq A (L0 ++ List.replicate i 48) cs (some ⟨bc,0,none⟩) cc bb (nats ds) t2 A2 cap2)) (fun _ iv _=>m - (intOf iv).toNat)
      case atStart=>exact ⟨0,t,A',cap',Nat.zero_le _,rfl,rfl,by omega,by unfold Hid; rw [List.replicate_zero,List.append_nil]; exact HW1.out⟩
      case round =>
       clear HW1
       obtain ⟨i,t2,A2,cap2,him,rfl,rfl,ht2,hS⟩:=hrel
       have hB2:Hid (Buf .u8 5 wr A2 cap2 (nats (L0 ++ List.replicate i 48))):=hS.out.1
       have hL2:Hid ((nats (L0 ++ List.replicate i 48)).length=t2):=by unfold Hid; rw [ZaS]; exact hS.out.2.1
       by_cases hlt:i < m
       ·have hSh:Hid (Zan .u8 (wr.alloc (.cells #[.int .u8 48] 5)) (some ⟨wr.heap.size,0,none⟩) [48]):=(Own.new wr 5 .u8 [48] []).shows0
        go_wp2_with (at_builtin; refine Hid.out ?_)
        refine zh ?_
        refine Zay rfl _ _ _ rfl _ .u8 1 Tryz.underlying196 ZdE A2 (some ⟨wr.heap.size,0,none⟩) t2 1 cap2 1 rfl rfl (nats (L0 ++ List.replicate i 48)) [48] hL2.out rfl (hB2.out.ext ((Fr.refl _ _).alloc _)) hSh.out (by simp only [maxLen]; omega) (by omega) ?_
        intro A3 cap3 w3 hB3 hF3 hA3
        have HNew:Hid (Wrt w w3 A (L0 ++ List.replicate (i + 1) 48) cs (some ⟨bc,0,none⟩) cc bb (nats ds) (t2 + 1) A3 cap3):=by
         have h:=hS.out.zero hB3 hF3 hA3
         unfold Hid
         rw [List.replicate_succ',← List.append_assoc]; exact h
        clear hB3 hF3 hA3 hSh hB2 hL2
        go_wp2
        go_roundw
        case rel=>exact ⟨i + 1,t2 + 1,A3,cap3,by omega,by go_num,rfl,by omega,HNew⟩
        case measure=>simp [intOf]; omega
       ·obtain rfl:i=m:=by omega
        have hSh:Hid (Zan .u8 wr (some ⟨bb,0,none⟩) (nats ds)):=hS.out.2.2.2.1.1.shows0
        go_wp2_with (at_builtin; refine Hid.out ?_)
        refine zh ?_
        refine Zay rfl _ _ _ rfl _ .u8 1 Tryz.underlying196 ZdE A2 (some ⟨bb,0,none⟩) t2 ds.length cap2 20 rfl rfl (nats (L0 ++ List.replicate i 48)) (nats ds) hL2.out (ZaS ds) hB2.out hSh.out (by simp only [maxLen]; omega) (by omega) ?_
        intro A3 cap3 w3 hB3 hF3 hA3
        have HNew:Hid (Wrt w w3 A (l ++ ZbZ cs width j) cs (some ⟨bc,0,none⟩) cc bb [] (t2 + ds.length) A3 cap3):=by
         have h:=hS.out.app (news:=ds) rfl hB3 hF3 (fun b hb=>(hA3 b hb).imp id (fun k=>by omega))
         unfold Hid
         rw [HO.out]
         exact h.buf h.2.2.2.1.nil (Fr.refl _ _)
        clear hB3 hF3 hA3 hSh hB2 hL2
        go_wp2
        go_roundw
        case rel=>((repeat apply Exists.intro); exact ⟨⟨j,t2 + ds.length,A3,cap3,by omega,rfl,rfl,by rw [hdec0],HNew⟩,rfl⟩)
        case measure=>simp [intOf]
    ·obtain rfl:k=0:=by omega
     clear hsl hal
     by_cases hc0:cs=[]
     ·subst hc0
      have HX0:Hid (x=0):=by have:=HVc.out; unfold Hid; simpa using this
      have HW:Hid (Wrt w wr A (l ++ List.replicate 0 48) [] Ac cc bb [] t A' cap'):=by
       have h:=hS.out
       rw [show ZbZ [] width 0=[] from ZeB [] width] at h
       exact h
      have hdec0:decide (0=([]:List Nat).length)=true:=rfl
      rw [hdec0]
      have htn:t=n:=by have:=hS.out.2.1; rw [show ZbZ [] width 0=[] from ZeB [] width,List.append_nil] at this; rw [← this]; exact HN.out
      have htl:t≤n:=by omega
      clear hS htn hdec0
      go_wp2
      go_loopw [0,82] (fun tv iv wq=>∃ (i t2:Nat) (A2:Option Addr) (cap2:Nat),i≤width∧iv=.int .i64 (i:Int)∧tv=.slice A2 t2 cap2∧t2≤t + i∧Hid (Wrt w wq A (l ++ List.replicate i 48) [] Ac cc bb [] t2 A2 cap2)) (fun _ iv _=>width - (intOf iv).toNat)
      case atStart=>exact ⟨0,t,A',cap',Nat.zero_le _,rfl,rfl,by omega,HW⟩
      case round =>
       clear HW
       obtain ⟨i,t2,A2,cap2,him,rfl,rfl,ht2,hS⟩:=hrel
       by_cases hlt:i < width
       ·have hB2:Hid (Buf .u8 5 wr A2 cap2 (nats (l ++ List.replicate i 48))):=hS.out.1
        have hL2:Hid ((nats (l ++ List.replicate i 48)).length=t2):=by unfold Hid; rw [ZaS]; exact hS.out.2.1
        have hSh:Hid (Zan .u8 (wr.alloc (.cells #[.int .u8 48] 5)) (some ⟨wr.heap.size,0,none⟩) [48]):=(Own.new wr 5 .u8 [48] []).shows0
        go_wp2_with (at_builtin; refine Hid.out ?_)
        refine zh ?_
        refine Zay rfl _ _ _ rfl _ .u8 1 Tryz.underlying196 ZdE A2 (some ⟨wr.heap.size,0,none⟩) t2 1 cap2 1 rfl rfl (nats (l ++ List.replicate i 48)) [48] hL2.out rfl (hB2.out.ext ((Fr.refl _ _).alloc _)) hSh.out (by simp only [maxLen]; omega) (by omega) ?_
        intro A3 cap3 w3 hB3 hF3 hA3
        have HNew:Hid (Wrt w w3 A (l ++ List.replicate (i + 1) 48) [] Ac cc bb [] (t2 + 1) A3 cap3):=by
         have h:=hS.out.zero hB3 hF3 hA3
         unfold Hid
         rw [List.replicate_succ',← List.append_assoc]; exact h
        clear hB3 hF3 hA3 hSh hB2 hL2
        go_wp2
        go_roundw
        case rel=>((repeat apply Exists.intro); exact ⟨⟨i + 1,t2 + 1,A3,cap3,by omega,by go_num,rfl,by omega,HNew⟩,rfl⟩)
        case measure=>simp [intOf]; omega
       ·obtain rfl:i=width:=by omega
        have HR:Hid (ZbC w A (l ++ ZaL x i) (.returned (.slice A2 t2 cap2)) wr):=by
         unfold Hid; rw [HX0.out,ZhX]; exact hS.out.ret
        clear hS
        go_wp2
        go_ret
        exact HR.out
     ·have HR:Hid (ZbC w A (l ++ ZaL x width) (.returned (.slice A' t cap')) wr):=by
       have h:=hS.out.ret
       rw [ZbZ,if_neg (by intro e; exact hc0 (List.length_eq_zero_iff.1 e.symm)),List.drop_zero,Nat.mul_zero,Nat.sub_zero,← HVc.out] at h
       exact h
      have hdec0:decide (0=cs.length)=false:=by
       simp only [decide_eq_false_iff_not]; intro e; exact hc0 (List.length_eq_zero_iff.1 e.symm)
      rw [hdec0]
      clear hS hc0
      go_wp2
      go_ret
      exact HR.out
  ·obtain ⟨b,rfl,hOw,hCw,hcw,hcm⟩:=hS.out.1.openK hne
   have hpos:0 < ws.length:=List.length_pos_iff.2 hne
   have HNE:=zh hne
   have HIn:Hid (Zd7 ws T19 ws.length ws 0):=Zd7.start ws hS.out.2.1 ZdR
   have HOw:=zh hOw
   have HCw:=zh hCw
   have hm:0 < val W64 ws:=ZdV hS.out.2.2.1 Zai hne
   have HLc:=zh (hS.out.2.2.2.2.2.1.len hm)
   clear hOw hCw hne hm
   go_wp2
   go_loopw [9,10] (fun rv iv wq=>∃ (k r:Nat) (qs:List Nat),k≤ws.length∧iv=.int .i64 ((k:Int) - 1)∧rv=.int .u64 (r:Int)∧Hid (Zd7 ws T19 k qs r)∧Hid (Own .u64 88 wq b qs)∧Hid (ZbD 88 wq b cw)∧Hid (Fr (· = b) wr wq)) (fun _ iv _=>(intOf iv + 1).toNat)
   case atStart=>exact ⟨ws.length,0,ws,Nat.le_refl _,rfl,rfl,HIn,HOw,HCw,Fr.refl _ _⟩
   case round =>
    clear HIn HOw HCw
    obtain ⟨k,r,qs,hk',rfl,rfl,hI,hO,hC,hF⟩:=hrel
    by_cases hlt:0 < k
    ·obtain ⟨j,rfl⟩:∃ j,k=j + 1:=⟨k - 1,by omega⟩
     have ej:(((j + 1:Nat):Int) - 1)=(j:Int):=by omega
     rw [ej]
     clear ej
     have hql:=hI.out.1.1
     have hjl:j < qs.length:=by omega
     have hcz:=hO.out.cell hjl
     have hfz:=hO.out.frozen j
     obtain ⟨z,ez⟩:∃ z,qs[j]?.getD 0=z:=⟨_,rfl⟩
     rw [ez] at hcz
     have hzW:Hid (z < W64):=ez ▸ hI.out.1.2.1.getD Zai j
     have HI2:=zh (hI.out.step (by omega) ez hzW.out)
     have HO3:=zh (fun v=>hO.out.set j v hjl)
     have HrT:Hid (r < T19):=hI.out.1.2.2.1
     clear ez hql
     go_wp2_with (go_at_call 258; refine (Zot _ _ _ HrT.out hzW.out).mono ?_; rintro e w' ⟨rfl,n1,rfl⟩)
     go_roundw
     case rel=>exact ⟨j,_,_,by omega,rfl,rfl,HI2,HO3.out _,hC.out.setCell _ _ _,(hF.out.setCell (p:=⟨b,j,none⟩) (Or.inl rfl) _).drewN _⟩
     case measure=>simp [intOf]
    ·obtain rfl:k=0:=by omega
     have hql:=hI.out.1.1
     have HTr:=zh (ZbA _ qs ws.length cw wr hql hO.out.shows0 (by omega) (by omega))
     clear hql
     go_wp2_with fail
     refine HTr.out.mono ?_
     rintro e w2 ⟨rfl,rfl⟩
     clear HTr
     have hSh:Hid (Zan .u64 (wr.alloc (.cells #[.int .u64 (r:Int)] 88)) (some ⟨wr.heap.size,0,none⟩) [r]):=(Own.new wr 88 .u64 [r] []).shows0
     have hBc:Hid (Buf .u64 88 wr Ac cc cs):=hS.out.2.2.2.1.fr hF.out (fun c hc e=>by subst e; exact hS.out.2.2.2.2.2.2.2.2.1 c ⟨_,rfl,rfl⟩ hc)
     go_wp2_with (at_builtin; refine Hid.out ?_)
     refine zh ?_
     refine Zay rfl _ _ _ rfl _ .u64 8 Tryz.underlying93 Zcq Ac (some ⟨wr.heap.size,0,none⟩) cs.length 1 cc 1 rfl rfl cs [r] rfl rfl (hBc.out.ext ((Fr.refl _ _).alloc _)) hSh.out (by simp only [maxLen]; omega) (by omega) ?_
     intro Ac2 cc2 w3 hB3 hF3 hA3
     have HNew:=zh (hS.out.next HNE.out hI.out hO.out hC.out hF.out hB3 hF3 hA3)
     have hcl:=HLc.out
     clear hB3 hF3 hA3 hSh hBc
     go_wp2
     go_roundw
     case rel=>exact ⟨ZaY qs,cs ++ [r],some ⟨b,0,none⟩,cw,Ac2,cc2,by rw [Zbd],by rw [List.length_append]; rfl,HNew⟩
     case measure=>simp; omega
end Go.Proofs.YthlipnahcbcjkaaGreatDoor

namespace Go.Proofs.YthlipnahcbcjkaaGreatDoor
open Go.RowKit Go.Sort
theorem Zaf.text {w w':World} {v:Value} {n:Nat} {A:Option Addr} {cap:Nat} {l:List UInt8} (h:Zaf w v n) (hB:TBuf w A cap l) (hF:Fr (Zad A) w w'):Zaf w' v n:=by
 obtain ⟨B,xs,c,rfl,hc,hX,hd,ht,hv⟩:=h
 refine ⟨B,xs,c,rfl,hc,?_,hd,ht,hv⟩
 by_cases hne:xs=[]
 ·subst hne; exact Zan.nil
 ·obtain ⟨b,off,rfl,hb,hcs⟩:=hX hne
  refine hX.fr hF (fun a ha _ hs=>?_)
  injection ha with ha; subst ha
  have h0:=hcs 0 (List.length_pos_iff.2 hne)
  obtain ⟨z,hz⟩:=(Buf.all hB hs).of_cell h0
  cases hz
noncomputable def pw19 (i:Nat):Nat:=T19 ^ 2 ^ i
theorem Zj5:pw19 0=T19:=by simp [pw19]
theorem Zj6 (i:Nat):pw19 (i + 1)=pw19 i * pw19 i:=by
 unfold pw19; rw [Nat.pow_succ,Nat.pow_mul,Nat.pow_two]
theorem Zil (i:Nat):pw19 i=10 ^ (19 * 2 ^ i):=by unfold pw19; rw [Zel,← Nat.pow_mul]
theorem Zll (i:Nat):0 < pw19 i:=Nat.pow_pos ZdR
theorem ZjE (i:Nat):wl (pw19 i)≤2 ^ i:=by
 induction i with
 | zero=>rw [Zj5]; exact ZcB.2 Zi2
 | succ i ih=>rw [Zj6]; have:=ZfK (pw19 i) (pw19 i); rw [Nat.pow_succ]; omega
def Zc0 (w:World) (P:Option Addr) (L:Nat):Prop :=
 0 < L→∃ b off,P=some ⟨b,off,none⟩∧b < w.heap.size∧∀ i,i < L→∃ B l c,w.cell? ⟨b,off + i,none⟩=some (.slice B l c)∧Zaf w (.slice B l c) (pw19 i)
theorem Zc0.less {w:World} {P:Option Addr} {L K:Nat} (h:Zc0 w P L) (hK:K≤L):Zc0 w P K:=fun h0=>by
 obtain ⟨b,off,h1,h2,h3⟩:=h (by omega)
 exact ⟨b,off,h1,h2,fun i hi=>h3 i (by omega)⟩
theorem Zc0.ext {w w':World} {P:Option Addr} {L:Nat} (h:Zc0 w P L) (hF:Ext w w'):Zc0 w' P L:=fun h0=>by
 obtain ⟨b,off,h1,h2,h3⟩:=h h0
 refine ⟨b,off,h1,Nat.lt_of_lt_of_le h2 hF.size,fun i hi=>?_⟩
 obtain ⟨B,l,c,k1,k2⟩:=h3 i hi
 exact ⟨B,l,c,(hF.cell (p:=⟨b,off + i,none⟩) h2 (fun f=>f)).trans k1,k2.ext hF⟩
theorem Zc0.text {w w':World} {P:Option Addr} {L:Nat} {A:Option Addr} {cap:Nat} {l:List UInt8} (h:Zc0 w P L) (hB:TBuf w A cap l) (hF:Fr (Zad A) w w'):Zc0 w' P L:=fun h0=>by
 obtain ⟨b,off,h1,h2,h3⟩:=h h0
 have hne:¬ Zad A b:=fun hb=>by
  obtain ⟨B,l,c,k1,_⟩:=h3 0 h0
  obtain ⟨z,hz⟩:=(Buf.all hB hb).of_cell k1
  cases hz
 refine ⟨b,off,h1,Nat.lt_of_lt_of_le h2 hF.size,fun i hi=>?_⟩
 obtain ⟨B,l,c,k1,k2⟩:=h3 i hi
 exact ⟨B,l,c,(hF.cell (p:=⟨b,off + i,none⟩) h2 hne).trans k1,k2.text hB hF⟩
theorem Zj7 (x width:Nat) (hx:wl x < 128) (hw:width≤2500):(ZaL x width).length≤2600:=by
 rw [ZgH]
 obtain ⟨k,hk⟩:∃ k,k=127:=⟨_,rfl⟩
 have h1:x < 10 ^ (20 * k):=by
  have h2:=ZbB.1 (show wl x≤k by omega)
  refine Nat.lt_of_lt_of_le h2 ?_
  rw [Nat.pow_mul]
  exact Nat.pow_le_pow_left (by rw [Zal]; decide) _
 have:=ZeN _ _ h1
 clear h1
 omega
set_option maxHeartbeats 4000000 in
theorem Zi3 (L:Nat):∀ (A:Option Addr) (cap n x width:Nat) (l:List UInt8) (xv:Value) (P:Option Addr) (c:Nat) (w0 w:World),Ext w0 w→Glob w0→Zcb w0 A→Zaf w xv x→wl x < 128→Zc0 w P L→L≤c→L≤7→(width=0∨width=19 * 2 ^ L) →
 l.length=n→TBuf w A cap l→n + 6000 * 2 ^ L≤274877906944 →
 Calls Tryz.prog 273 #[.slice A n cap,xv, .int .i64 (width:Int), .slice P L c] w (ZbC w A (l ++ ZaL x width)):=by
 induction L with
 | zero =>
   intro A cap n x width l xv P c w0 w Q hg hA hx hwl hP hc hL hwid hn hB hl
   have hwid2:width≤19:=by rcases hwid with h | h<;>omega
   have H:=zh (Zfe A cap n x width l xv w0 w Q hg hA hx (by omega) hn hB (by omega) (by omega))
   obtain ⟨X,xl,xc,rfl⟩:=hx.slice
   have hxl:=hx.len0
   have hxl2:xl≤127:=by omega
   generalize l ++ ZaL x width=m at H ⊢
   clear Q hg hA hx hwl hP hwid hn hB hxl
   go_enter Tryz.func273,Tryz.ntmps273
   go_wp2_with fail
   refine H.out.mono ?_
   rintro e w1 ⟨A1,cap1,rfl,hR⟩
   have HR:=zh hR
   clear hR
   go_wp2
   go_ret
   exact ⟨A1,cap1,rfl,HR.out⟩
 | succ K ih =>
   intro A cap n x width l xv P c w0 w Q hg hA hx hwl hP hc hL hwid hn hB hl
   have h2K:2 ^ K≤64:=by
    have:2 ^ K≤2 ^ 6:=Nat.pow_le_pow_right (by omega) (by omega)
    omega
   have h2K1:1≤2 ^ K:=Nat.one_le_two_pow
   have hs:2 ^ (K + 1)=2 ^ K + 2 ^ K:=by rw [Nat.pow_succ]; omega
   have hwid2:width≤2500:=by rcases hwid with h | h<;>omega
   obtain ⟨X,xl,xc,rfl⟩:=hx.slice
   have hxl:=hx.len0
   have hxl2:xl≤127:=by omega
   by_cases h30:xl≤30
   ·have H:=zh (Zfe A cap n x width l _ w0 w Q hg hA hx (by omega) hn hB (by omega) (by omega))
    generalize l ++ ZaL x width=m at H ⊢
    clear Q hg hA hx hwl hP hwid hn hB hxl ih h2K h2K1 hs hl
    go_enter Tryz.func273,Tryz.ntmps273
    go_wp2_with fail
    refine H.out.mono ?_
    rintro e w1 ⟨A1,cap1,rfl,hR⟩
    have HR:=zh hR
    clear hR
    go_wp2
    go_ret
    exact ⟨A1,cap1,rfl,HR.out⟩
   ·obtain ⟨bP,offP,rfl,hbP,hcP⟩:=hP (by omega)
    obtain ⟨BY,lY,cY,hcY,hNY⟩:=hcP K (by omega)
    have hwY:=ZjE K
    have HD:=zh (Zc7 _ _ x (pw19 K) w hx hNY (by omega) (by omega) (Zll K))
    have HP:=zh hP
    have HB:=zh hB
    have HE:=zh Q
    have HG:=zh hg
    have HA:=zh hA
    have HN:=zh hn
    have HW:=zh hwl
    have HL:=zh hl
    have HWd:=zh hwid
    have HS:=zh hs
    have HI:=zh ih
    obtain ⟨D,eD⟩:∃ D,19 * 2 ^ K=D:=⟨_,rfl⟩
    have hD1:D≤1216:=by omega
    have hsh:(19 * 2 ^ K:Int)=(D:Int):=by rw [← eD]; simp
    have hsh2:IntKind.i64.wrap (D:Int)=(D:Int):=IntWalk.i64_in _ (by omega)
    have HeD:=zh eD
    obtain ⟨m,HM⟩:∃ m,Hid (l ++ ZaL x width=m):=⟨_,rfl⟩
    rw [HM.out]
    clear eD
    have hh30:¬ xl≤30:=h30
    clear Q hg hA hx hwl hP hwid hn hB hxl ih hcP hNY hwY hl hs
    go_enter Tryz.func273,Tryz.ntmps273
    go_wp2_with fail
    refine HD.out.mono ?_
    rintro e w1 ⟨u,v,rfl,hNu,hNv,hF1⟩
    obtain ⟨Bu,lu,cu,rfl⟩:=hNu.slice
    obtain ⟨Bv,lv,cv,rfl⟩:=hNv.slice
    have Hu:=zh hNu
    have Hv:=zh hNv
    have HF1:=zh hF1
    have hlu:lu≤127:=by
     have h1:=hNu.len0
     have h2:wl (x / pw19 K)≤wl x:=Za3 (Nat.div_le_self _ _)
     have:=HW.out; omega
    have Hlu:Hid (lu=0 ↔ x / pw19 K=0):=by
     unfold Hid
     have h1:=hNu.len0
     rw [h1]
     constructor
     ·intro h
      rcases Nat.eq_zero_or_pos (x / pw19 K) with k | k
      ·exact k
      ·have:=ZeY k; omega
     ·intro h; rw [h,ZfJ]
    have Hql:Hid (wl (x / pw19 K) < 128):=by
     have h2:wl (x / pw19 K)≤wl x:=Za3 (Nat.div_le_self _ _)
     have:=HW.out; unfold Hid; omega
    have Hrl:Hid (wl (x % pw19 K) < 128):=by
     have h2:wl (x % pw19 K)≤wl x:=Za3 (Nat.mod_le _ _)
     have:=HW.out; unfold Hid; omega
    have Hlow:Hid (x % pw19 K < 10 ^ (19 * 2 ^ K)):=by
     unfold Hid; rw [← Zil]; exact Nat.mod_lt _ (Zll K)
    have Hx:Hid (x=x / pw19 K * 10 ^ (19 * 2 ^ K) + x % pw19 K):=by
     unfold Hid; rw [← Zil,Nat.mul_comm]; exact (Nat.div_add_mod x (pw19 K)).symm
    have HB1:Hid (TBuf w1 A cap l):=HB.out.ext HF1.out
    have HP1:Hid (Zc0 w1 (some ⟨bP,offP,none⟩) K):=(HP.out.ext HF1.out).less (by omega)
    have HE1:Hid (Ext w0 w1):=HE.out.trans HF1.out
    clear hNu hNv hF1 HD HP HB
    generalize x / pw19 K=q at *
    generalize x % pw19 K=r at *
    by_cases hz:lu=0
    ·have hz1:((lu:Int) == 0)=true:=by simp; omega
     have HQ:Hid (q=0):=Hlu.out.1 hz
     by_cases hw0:width=0
     ·have hz2:((width:Int) == 0)=true:=by simp; omega
      have HM2:Hid (l ++ ZaL r 0=m):=by
       have h1:=HM.out
       rw [Hx.out,HQ.out,Nat.zero_mul,Nat.zero_add,hw0] at h1
       exact h1
      have HC:=zh (HI.out A cap n r 0 l _ _ c w0 w1 HE1.out HG.out HA.out Hv.out Hrl.out HP1.out (by omega) (by omega) (Or.inl rfl) HN.out HB1.out (by have:=HL.out; have:=HS.out; omega))
      rw [HM2.out] at HC
      clear hz hw0 HM2
      go_wp2_with fail
      refine HC.out.mono ?_
      intro e w2 h
      obtain ⟨A1,cap1,rfl,hR⟩:=h.mono rfl (HF1.out.mono (fun _ _ f=>f.elim)) (fun b hb=>Or.inl hb)
      have HR:=zh hR
      clear hR h
      go_wp2
      go_ret
      exact ⟨A1,cap1,rfl,HR.out⟩
     ·have hz2:((width:Int) == 0)=false:=by simp; omega
      have HMC:Hid (0 < q∨19 * 2 ^ K≤width):=by
       rcases HWd.out with k | k
       ·omega
       ·have:=HS.out; exact Or.inr (by omega)
      clear hz hw0
      have eD:=HeD.out
      rw [eD] at HMC Hlow Hx
      have HWr:Hid (width - D=0∨width - D=D):=by
       rcases HWd.out with k | k
       ·exact Or.inl (by omega)
       ·have:=HS.out; exact Or.inr (by omega)
      have HMX:max ((width:Int) - (D:Int)) 0=((width - D:Nat):Int):=by rw [Int.max_def]; split<;>omega
      have HM2:Hid (l ++ ZaL q (width - D) ++ ZaL r D=m):=by
       have h1:=HM.out
       rw [Hx.out,Zfd Hlow.out HMC.out,← ZhY Hlow.out,← List.append_assoc] at h1
       exact h1
      have HC:=zh (HI.out A cap n q (width - D) l _ _ c w0 w1 HE1.out HG.out HA.out Hu.out Hql.out HP1.out (by omega) (by omega) (by rw [eD]; exact HWr.out) HN.out HB1.out (by have:=HL.out; have:=HS.out; omega))
      have HNl:Hid ((ZaL q (width - D)).length≤2600):=Zj7 _ _ Hql.out (by omega)
      clear HWr hlu Hlu HMC eD
      obtain ⟨wd,ewd⟩:∃ wd,width - D=wd:=⟨_,rfl⟩
      rw [ewd] at HMX HC HM2 HNl
      clear ewd
      go_wp2_with fail
      refine HC.out.mono ?_
      rintro e w2 ⟨A1,cap1,rfl,hB2,hF2,hA2⟩
      obtain ⟨n2,en2⟩:∃ n2,(l ++ ZaL q wd).length=n2:=⟨_,rfl⟩
      have hn2:n2≤n + 2600:=by rw [← en2,List.length_append]; have:=HN.out; have:=HNl.out; omega
      have HC2:=zh (HI.out A1 cap1 n2 r D (l ++ ZaL q wd) _ _ c w0 w2 (HA.out.ext HE1.out hF2) HG.out (HA.out.next HE1.out hA2) (Hv.out.text HB1.out hF2) Hrl.out (HP1.out.text HB1.out hF2) (by omega) (by omega) (Or.inr HeD.out.symm) en2 hB2 (by have:=HL.out; have:=HS.out; omega))
      rw [HM2.out] at HC2
      have HF2:Hid (Fr (Zad A) w w2):=(HF1.out.mono (fun _ _ f=>f.elim)).trans hF2
      have HA2:Hid (∀ b,Zad A1 b→Zad A b∨w.heap.size≤b):=fun b hb=>(hA2 b hb).imp id (fun h=>Nat.le_trans HF1.out.size h)
      rw [en2]
      clear hB2 hF2 hA2 en2 hn2 HC HM2
      go_wp2_with fail
      refine HC2.out.mono ?_
      intro e w3 h
      obtain ⟨A3,cap3,rfl,hR⟩:=h.mono rfl HF2.out HA2.out
      have HR:=zh hR
      clear hR h
      go_wp2
      go_ret
      exact ⟨A3,cap3,rfl,HR.out⟩
    ·  have hz1:((lu:Int) == 0)=false:=by simp; omega
       have HMC:Hid (0 < q∨19 * 2 ^ K≤width):=by
        rcases Nat.eq_zero_or_pos q with k | k
        ·exact absurd (Hlu.out.2 k) hz
        ·exact Or.inl k
       clear hz
       have eD:=HeD.out
       rw [eD] at HMC Hlow Hx
       have HWr:Hid (width - D=0∨width - D=D):=by
        rcases HWd.out with k | k
        ·exact Or.inl (by omega)
        ·have:=HS.out; exact Or.inr (by omega)
       have HMX:max ((width:Int) - (D:Int)) 0=((width - D:Nat):Int):=by rw [Int.max_def]; split<;>omega
       have HM2:Hid (l ++ ZaL q (width - D) ++ ZaL r D=m):=by
        have h1:=HM.out
        rw [Hx.out,Zfd Hlow.out HMC.out,← ZhY Hlow.out,← List.append_assoc] at h1
        exact h1
       have HC:=zh (HI.out A cap n q (width - D) l _ _ c w0 w1 HE1.out HG.out HA.out Hu.out Hql.out HP1.out (by omega) (by omega) (by rw [eD]; exact HWr.out) HN.out HB1.out (by have:=HL.out; have:=HS.out; omega))
       have HNl:Hid ((ZaL q (width - D)).length≤2600):=Zj7 _ _ Hql.out (by omega)
       clear HWr hlu Hlu HMC eD
       obtain ⟨wd,ewd⟩:∃ wd,width - D=wd:=⟨_,rfl⟩
       rw [ewd] at HMX HC HM2 HNl
       clear ewd
       go_wp2_with fail
       refine HC.out.mono ?_
       rintro e w2 ⟨A1,cap1,rfl,hB2,hF2,hA2⟩
       obtain ⟨n2,en2⟩:∃ n2,(l ++ ZaL q wd).length=n2:=⟨_,rfl⟩
       have hn2:n2≤n + 2600:=by rw [← en2,List.length_append]; have:=HN.out; have:=HNl.out; omega
       have HC2:=zh (HI.out A1 cap1 n2 r D (l ++ ZaL q wd) _ _ c w0 w2 (HA.out.ext HE1.out hF2) HG.out (HA.out.next HE1.out hA2) (Hv.out.text HB1.out hF2) Hrl.out (HP1.out.text HB1.out hF2) (by omega) (by omega) (Or.inr HeD.out.symm) en2 hB2 (by have:=HL.out; have:=HS.out; omega))
       rw [HM2.out] at HC2
       have HF2:Hid (Fr (Zad A) w w2):=(HF1.out.mono (fun _ _ f=>f.elim)).trans hF2
       have HA2:Hid (∀ b,Zad A1 b→Zad A b∨w.heap.size≤b):=fun b hb=>(hA2 b hb).imp id (fun h=>Nat.le_trans HF1.out.size h)
       rw [en2]
       clear hB2 hF2 hA2 en2 hn2 HC HM2
       go_wp2_with fail
       refine HC2.out.mono ?_
       intro e w3 h
       obtain ⟨A3,cap3,rfl,hR⟩:=h.mono rfl HF2.out HA2.out
       have HR:=zh hR
       clear hR h
       go_wp2
       go_ret
       exact ⟨A3,cap3,rfl,HR.out⟩
end Go.Proofs.YthlipnahcbcjkaaGreatDoor

namespace Go.Proofs.YthlipnahcbcjkaaGreatDoor
open Go.RowKit Go.Sort
def IsSl (v:Value):Prop:=∃ B l c,v=.slice B l c
theorem ZpL:(Tryz.prog.info? 93).map (fun i=>(i.zero,i.size,i.bytes))=some (some (.slice none 0 0),1,24):=by kernel_rfl
def Pows (w wr:World) (A:Option Addr) (L cap:Nat):Prop :=
 ∃ vs:List Value,vs.length=L∧VBuf IsSl 93 wr A cap vs∧(∀ b,Zad A b→w.heap.size≤b)∧Ext w wr∧∀ i,i < L→∃ B l c,vs[i]? = some (.slice B l c)∧Zaf wr (.slice B l c) (pw19 i)
theorem Zaf.rows {w w':World} {v:Value} {n:Nat} {A:Option Addr} (h:Zaf w v n) (hB:∀ b,Zad A b→Zc6 IsSl w b) (hF:Fr (Zad A) w w'):Zaf w' v n:=by
 obtain ⟨B,xs,c,rfl,hc,hX,hd,ht,hv⟩:=h
 refine ⟨B,xs,c,rfl,hc,?_,hd,ht,hv⟩
 by_cases hne:xs=[]
 ·subst hne; exact Zan.nil
 ·obtain ⟨b,off,rfl,hb,hcs⟩:=hX hne
  refine hX.fr hF (fun a ha _ hs=>?_)
  injection ha with ha; subst ha
  have h0:=hcs 0 (List.length_pos_iff.2 hne)
  obtain ⟨_,_,_,hz⟩:=(hB _ hs).of_cell h0
  cases hz
theorem Pows.powsIs {w wr:World} {A:Option Addr} {L cap:Nat} (h:Pows w wr A L cap):Zc0 wr A L:=fun h0=>by
 obtain ⟨vs,rfl,h2,h3,h4,h5⟩:=h
 obtain ⟨b,rfl,hb,_⟩:=h2.cell h0
 refine ⟨b,0,rfl,hb,fun i hi=>?_⟩
 obtain ⟨B,l,c,k1,k2⟩:=h5 i hi
 obtain ⟨b',e',_,hc⟩:=h2.cell hi
 injection e' with e'; injection e' with e'; subst e'
 exact ⟨B,l,c,by rw [Nat.zero_add,hc,k1],k2⟩
theorem Pows.next {w wr w1 w3:World} {A A':Option Addr} {L cap cap':Nat} {o:Obj} {B:Option Addr} {l c:Nat} {vs:List Value} (hvs:vs.length=L) (h2:VBuf IsSl 93 wr A cap vs) (h3:∀ b,Zad A b→w.heap.size≤b) (h4:Ext w wr) (h5:∀ i,i < L→∃ B l c,vs[i]? = some (.slice B l c)∧Zaf wr (.slice B l c) (pw19 i))
 (Q:Ext wr w1) (hN:Zaf w1 (.slice B l c) (pw19 L)) (k1:VBuf IsSl 93 w3 A' cap' (vs ++ [.slice B l c])) (k2:Fr (Zad A) (w1.alloc o) w3) (k3:∀ b,Zad A' b→Zad A b∨b=(w1.alloc o).heap.size):Pows w w3 A' (L + 1) cap':=by
 have hE2:Ext wr (w1.alloc o):=Q.alloc o
 have hall:∀ b,Zad A b→Zc6 IsSl (w1.alloc o) b:=fun b hb=>(h2.2 b hb).fr hE2 (fun f=>f)
 refine ⟨vs ++ [.slice B l c],by simp [hvs],k1,fun b hb=>?_,(h4.trans hE2).next k2 (fun i hi hb=>by have:=h3 i hb; omega),fun i hi=>?_⟩
 ·rcases k3 b hb with k | k
  ·exact h3 b k
  ·have:=h4.size; have:=Q.size; simp at k; omega
 ·rcases (by omega:i < L∨i=L) with hlt | rfl
  ·obtain ⟨B',l',c',m1,m2⟩:=h5 i hlt
   exact ⟨B',l',c',by rw [List.getElem?_append_left (by omega)]; exact m1,(m2.ext hE2).rows hall k2⟩
  ·exact ⟨B,l,c,by rw [List.getElem?_append_right (by omega),hvs]; simp,(hN.ext ((Fr.refl _ _).alloc o)).rows hall k2⟩
theorem ZmI {w wb:World} (h:(w.alloc (.cells #[.int .u64 10000000000000000000] 88)).alloc (.cells #[.slice (some ⟨w.heap.size,0,none⟩) 1 1] 93)=wb):Pows w wb (some ⟨w.heap.size + 1,0,none⟩) 1 1:=by
 subst h
 have e1:(w.alloc (.cells #[.int .u64 10000000000000000000] 88)).heap.size=w.heap.size + 1:=by simp
 have hV:=VBuf.one (p:=IsSl) (w.alloc (.cells #[.int .u64 10000000000000000000] 88)) 93 (v:=.slice (some ⟨w.heap.size,0,none⟩) 1 1) ⟨_,_,_,rfl⟩
 rw [e1] at hV
 have hN:=Zaf.one w (x:=T19) (by have:=ZdR; omega) Zi2
 rw [Zl7] at hN
 refine ⟨_,rfl,hV,fun b hb=>?_,((Fr.refl _ _).alloc _).alloc _,fun i hi=>?_⟩
 ·obtain ⟨a,ha,rfl⟩:=hb
  injection ha with ha; subst ha; simp
 ·obtain rfl:i=0:=by omega
  exact ⟨_,_,_,rfl,by rw [Zj5]; exact hN.ext ((Fr.refl _ _).alloc _)⟩
def Zb0 (n:Nat):Prop:=wl n < 128
theorem Zou:64≤wl (pw19 6):=by
 rcases Nat.lt_or_ge (wl (pw19 6)) 64 with h | h
 ·exfalso
  have h1:=ZbB.1 (show wl (pw19 6)≤63 by omega)
  rw [Zil,Zal] at h1
  have h2:¬ (10 ^ (19 * 2 ^ 6) < 18446744073709551616 ^ 63):=by decide +kernel
  exact h2 h1
 ·exact h
set_option maxHeartbeats 4000000 in
theorem Zim (A:Option Addr) (cap n x:Nat) (l:List UInt8) (xv:Value) (w0 w:World) (Q:Ext w0 w) (hg:Glob w0) (hx:Zaf w0 xv x) (hW:Zb0 x) (h2:W64≤x) (hn:l.length=n) (hB:TBuf w A cap l) (hA:Zcb w0 A) (hl:n≤137438953472) :
 Calls Tryz.prog 226 #[.slice A n cap,xv] w (ZbC w A (l ++ Lib.decDigits x)):=by
 have hw2:2≤wl x:=by
  rcases Nat.lt_or_ge (wl x) 2 with h | h
  ·have:=ZcB.1 (show wl x≤1 by omega); omega
  ·exact h
 have hpos:0 < x:=by have:=Zai; omega
 obtain ⟨X,xl,xc,rfl⟩:=hx.slice
 have hxl:=hx.len0
 unfold Zb0 at hW
 have hx2:2≤xl:=by omega
 have hx3:xl≤127:=by omega
 have hxa:((xl:Int) == 0)=false:=by simp; omega
 have hxb:((xl:Int) == 1)=false:=by simp; omega
 have HX:=zh (hx.ext Q)
 have HE:=zh Q
 have HG:=zh hg
 have HB:=zh hB
 have HA:=zh hA
 have HN:=zh hn
 have HW:=zh hW
 rw [← ZlP hpos]
 obtain ⟨m,HM⟩:∃ m,Hid (l ++ ZaL x 0=m):=⟨_,rfl⟩
 rw [HM.out]
 clear Q hg hx hB hA hn hW h2 hw2 hpos hxl
 go_enter Tryz.func226,Tryz.ntmps226
 go_wp2
 generalize hwb:World.alloc (World.alloc w _) _=wb
 have HP0:=zh (ZmI hwb)
 clear hwb
 go_loopw [5] (fun pv wr=>∃ (L:Nat) (Ap:Option Addr) (cp:Nat),pv=.slice Ap L cp∧1≤L∧L≤7∧Hid (Pows w wr Ap L cp)) (fun pv _=>match pv with | .slice _ k _=>7 - k | _=>0)
 case atStart=>exact ⟨1,_,1,rfl,by omega,by omega,HP0⟩
 case round =>
  clear HP0
  obtain ⟨L,Ap,cp,rfl,hL1,hL7,hP⟩:=hrel
  obtain ⟨K,rfl⟩:∃ K,L=K + 1:=⟨L - 1,by omega⟩
  obtain ⟨vs,hvs,hV,hVb,hVe,hVn⟩:=hP.out
  obtain ⟨B,lb,cb,hb1,hb2⟩:=hVn K (by omega)
  obtain ⟨bp,rfl,hbp,hcp⟩:=hV.cell (i:=K) (by omega)
  rw [hb1] at hcp
  have hlb:=hb2.len0
  have hlb2:lb≤64:=by
   have h1:=ZjE K
   have:2 ^ K≤2 ^ 6:=Nat.pow_le_pow_right (by omega) (by omega)
   omega
  have hcap:=hV.len
  by_cases hgo:30 < xl∧2 * lb≤xl
  ·obtain ⟨hg1,hg2⟩:=hgo
   have hK6:K + 1 < 7:=by
    rcases Nat.lt_or_ge (K + 1) 7 with h | h
    ·exact h
    ·obtain rfl:K=6:=by omega
     have:=Zou; omega
   have h32:wl (pw19 K)≤32:=by
    have h1:=ZjE K
    have:2 ^ K≤2 ^ 5:=Nat.pow_le_pow_right (by omega) (by omega)
    omega
   have HMul:=zh (Zb6 _ _ (pw19 K) (pw19 K) wr hb2 hb2 (by omega) (by omega) (Or.inl (by omega)))
   rw [← Zj6] at HMul
   have HV:=zh hV
   have HVs:=zh hvs
   have HVb:=zh hVb
   have HVe:=zh hVe
   have HVn:=zh hVn
   clear hV hVb hVe hVn hb2 hlb hb1 hvs hP h32
   go_wp2_with fail
   refine HMul.out.mono ?_
   rintro e w1 ⟨v,rfl,hN1,hF1⟩
   obtain ⟨Bv,lv,cv,rfl⟩:=hN1.slice
   have HN1:=zh hN1
   have HF1:=zh hF1
   clear hN1 hF1 HMul
   go_wp2_with (at_builtin; refine Hid.out ?_)
   refine zh ?_
   refine Zhb IsSl rfl _ _ _ rfl _ (.slice none 0 0) 24 Tryz.underlying91 ZpL rfl ⟨_,_,_,rfl⟩ (some ⟨bp,0,none⟩) (K + 1) 1 cp 1 ⟨w1.heap.size,0,none⟩ rfl rfl vs [.slice Bv lv cv] HVs.out rfl (HV.out.ext (HF1.out.alloc _)) ?_ ?_ ?_ (by simp only [maxLen]; omega) (by omega) ?_
   ·intro j u hu
    match j,hu with
    | 0,hu=>simp at hu; subst hu; rw [Lib.add_plain]; exact cell_of_row _ _ _ _ _ _ (heap_alloc_new w1 _)
   ·intro u hu; simp at hu; subst hu; rfl
   ·intro u hu; simp at hu; subst hu; exact ⟨_,_,_,rfl⟩
   intro A3 cap3 w3 hB3 hF3 hA3
   have HNew:=zh (Pows.next HVs.out HV.out HVb.out HVe.out HVn.out HF1.out HN1.out hB3 hF3 hA3)
   clear hB3 hF3 hA3
   go_wp2
   go_roundw
   case rel=>exact ⟨K + 2,A3,cap3,by rfl,by omega,by omega,HNew⟩
   case measure=>simp; omega
  ·have HC:=zh (Zi3 (K + 1) A cap n x 0 l _ _ cp w0 wr (HE.out.trans hVe) HG.out HA.out (HX.out.ext hVe) HW.out hP.out.powsIs (by omega) (by omega) (Or.inl rfl) HN.out (HB.out.ext hVe) (by
    have:2 ^ (K + 1)≤2 ^ 7:=Nat.pow_le_pow_right (by omega) (by omega)
    omega))
   rw [HM.out] at HC
   have HVe:=zh hVe
   have hgo2:30 < xl→xl < 2 * lb:=fun h=>by omega
   clear hV hVb hVe hVn hb2 hlb hb1 hvs hP hgo
   by_cases hg1:30 < xl
   ·have hg2:=hgo2 hg1
    clear hgo2
    go_wp2_with fail
    refine HC.out.mono ?_
    intro e w2 h
    obtain ⟨A1,cap1,rfl,hR⟩:=h.mono rfl (HVe.out.mono (fun _ _ f=>f.elim)) (fun b hb=>Or.inl hb)
    have HR:=zh hR
    clear hR h
    go_wp2
    go_ret
    exact ⟨A1,cap1,rfl,HR.out⟩
   ·clear hgo2
    go_wp2_with fail
    refine HC.out.mono ?_
    intro e w2 h
    obtain ⟨A1,cap1,rfl,hR⟩:=h.mono rfl (HVe.out.mono (fun _ _ f=>f.elim)) (fun b hb=>Or.inl hb)
    have HR:=zh hR
    clear hR h
    go_wp2
    go_ret
    exact ⟨A1,cap1,rfl,HR.out⟩
theorem Zfx (A:Option Addr) (cap n x:Nat) (l:List UInt8) (xv:Value) (w0 w:World) (Q:Ext w0 w) (hg:Glob w0) (hx:Zaf w0 xv x) (hW:Zb0 x) (hn:l.length=n) (hB:TBuf w A cap l) (hA:Zcb w0 A) (hl:n≤137438953472) :
 Calls Tryz.prog 226 #[.slice A n cap,xv] w (ZbC w A (l ++ Lib.decDigits x)):=by
 rcases Nat.eq_zero_or_pos x with h | h
 ·subst h; exact Zik A cap n l xv w (hx.ext Q) hn hB (by omega)
 ·rcases Nat.lt_or_ge x W64 with h2 | h2
  ·exact Zi1 A cap n x l xv w (hg.ext Q) (hx.ext Q) h h2 hn hB (by omega)
  ·exact Zim A cap n x l xv w0 w Q hg hx hW h2 hn hB hA hl
end Go.Proofs.YthlipnahcbcjkaaGreatDoor

namespace Go.Proofs.YthlipnahcbcjkaaGreatDoor
open Go.RowKit Go.Sort
theorem TBuf.bytes {w:World} {A:Option Addr} {cap:Nat} {l:List UInt8} (h:TBuf w A cap l) (hl:l≠[]):∃ b,A=some ⟨b,0,none⟩∧∀ j (hj:j < l.length),w.cell? ((⟨b,0,none⟩:Addr).add j)=some (.int .u8 (l[j].toNat:Int)):=by
 rcases h with ⟨_,h,_⟩ | ⟨b,rfl,hO,_⟩
 ·simp [nats] at h; exact absurd h hl
 ·refine ⟨b,rfl,fun j hj=>?_⟩
  have:=hO.cell (i:=j) (by rw [ZaS]; exact hj)
  rw [Lib.add_plain,Nat.zero_add,this]
  simp [nats,hj]
theorem Zl8 (x:Int):Lib.itoa x≠[]:=by
 have h:∀ u,Lib.decDigits u≠[]:=fun u h=>by
  have h1:=Lib.decDigits_length u
  have h2:=Lib.nDigits_pos u
  rw [h] at h1; simp at h1; omega
 unfold Lib.itoa
 split
 ·simp
 ·exact h _
set_option maxHeartbeats 2000000 in
theorem Zgk (a:Value) (x:Int) (A:Option Addr) (cap n:Nat) (l:List UInt8) (w0 w:World) (Q:Ext w0 w) (hg:Glob w0) (ha:Zah w0 a x) (hx:Zb0 x.natAbs) (hn:l.length=n) (hB:TBuf w A cap l) (hA:Zcb w0 A) (hl:n≤137438953471) :
 Calls Tryz.prog 155 #[a, .slice A n cap] w (ZbC w A (l ++ Lib.itoa x)):=by
 obtain ⟨s,A2,l2,c2,rfl,hN,hz,h0⟩:=ha.open
 have HB:=zh hB
 have HN:=zh hn
 have HG:=zh hg
 have HX:=zh hx
 have HNx:=zh hN
 have HE:=zh Q
 have HA:=zh hA
 clear Q hA
 cases s with
 | false =>
   have he:Lib.itoa x=Lib.decDigits x.natAbs:=by
    simp [sg] at hz
    unfold Lib.itoa
    rw [if_neg (by omega)]
    congr 1; omega
   generalize hm:l ++ Lib.itoa x=m
   rw [he] at hm
   have HM:=zh hm
   clear hB hn hg hx hN ha hz h0 he hm
   go_enter Tryz.func155,Tryz.ntmps155
   go_wp2_with fail
   refine (Zfx A cap n _ l _ w0 _ (HE.out.alloc _) HG.out HNx.out HX.out HN.out (HB.out.ext ((Fr.refl _ _).alloc _)) HA.out (by omega)).mono ?_
   rw [HM.out]
   intro e w' h
   obtain ⟨A1,cap1,rfl,hB,hF,hA⟩:=h.mono rfl ((Fr.refl _ w).alloc _) (fun b hb=>Or.inl hb)
   have HB:=zh hB
   have HF:=zh hF
   have HA:=zh hA
   clear hB hF hA h
   go_wp2
   go_ret
   exact ⟨A1,cap1,rfl,HB.out,HF.out,HA.out⟩
 | true =>
   have he:Lib.itoa x=[45] ++ Lib.decDigits x.natAbs:=by
    have hne:x≠0:=fun e=>by simp [e] at h0
    simp [sg] at hz
    unfold Lib.itoa
    rw [if_pos (by omega)]
    rfl
   generalize hm:l ++ Lib.itoa x=m
   rw [he,← List.append_assoc] at hm
   have HM:=zh hm
   clear hB hn hg hx hN ha hz h0 he hm
   go_enter Tryz.func155,Tryz.ntmps155
   have hS:Zan .u8 ((w.alloc (.cells #[.bool true, .slice A2 l2 c2] 105)).alloc (.cells #[.int .u8 45] 5)) (some ⟨w.heap.size + 1,0,none⟩) (nats [45]):=by
    have h:=(Own.new (w.alloc (.cells #[.bool true, .slice A2 l2 c2] 105)) 5 .u8 [45] []).shows0
    have e:(w.alloc (.cells #[.bool true, .slice A2 l2 c2] 105)).heap.size=w.heap.size + 1:=by simp
    rw [e] at h
    exact h
   have HS:=zh hS
   clear hS
   go_wp2_with (at_builtin; refine Hid.out ?_)
   refine zh ?_
   refine Zay rfl _ _ _ rfl _ .u8 1 Tryz.underlying196 ZdE A (some ⟨w.heap.size + 1,0,none⟩) n 1 cap 1 rfl rfl (nats l) (nats [45]) (by rw [ZaS]; exact HN.out) rfl (HB.out.ext (((Fr.refl _ _).alloc _).alloc _)) HS.out (by simp only [maxLen]; omega) (by omega) ?_
   intro A1 cap1 w2 hB1 hF1 hA1
   have hE1:Fr (Zad A) w w2:=(((Fr.refl _ _).alloc _).alloc _).trans hF1
   have hblk:Blk 105 w2 w.heap.size #[.bool true, .slice A2 l2 c2]:=((Blk.new w _ _).alloc _).fr hF1 (fun h=>by have:=HB.out.lt h; omega)
   obtain ⟨z0,z1,z2,z3⟩:=hblk.cell2
   have HB1:=zh hB1
   have HE1:=zh hE1
   have HA1:Hid (∀ b,Zad A1 b→Zad A b∨w.heap.size≤b):=fun b hb=>(hA1 b hb).imp id (fun h=>by simp at h; omega)
   clear hB1 hF1 hA1 hE1 hblk
   go_wp2_with fail
   refine (Zfx A1 cap1 (n + 1) _ (l ++ [45]) _ w0 _ (HA.out.ext HE.out HE1.out) HG.out HNx.out HX.out (by rw [List.length_append,HN.out]; rfl) (by show Buf _ _ _ _ _ (nats (l ++ [45])); rw [Zc5]; exact HB1.out) (HA.out.next HE.out HA1.out) (by omega)).mono ?_
   rw [HM.out]
   intro e w' h
   obtain ⟨A3,cap3,rfl,hB,hF,hA⟩:=h.mono rfl HE1.out HA1.out
   have HB:=zh hB
   have HF:=zh hF
   have HA:=zh hA
   clear hB hF hA h
   go_wp2
   go_ret
   exact ⟨A3,cap3,rfl,HB.out,HF.out,HA.out⟩
set_option maxHeartbeats 2000000 in
theorem Zgl (a:Value) (x:Int) (w:World) (hg:Glob w) (ha:Zah w a x) (hx:Zb0 x.natAbs) :
 Calls Tryz.prog 84 #[a] w (RetV w (.string ⟨(Lib.itoa x).toArray⟩)):=by
 obtain ⟨s,A,l,c,rfl⟩:=ha.shape
 have HG:=zh hg
 have HI:=zh ha
 have HX:=zh hx
 have hne:=Zl8 x
 generalize hm:Lib.itoa x=m
 rw [hm] at hne
 have HM:=zh hm
 clear hg ha hx hm
 go_enter Tryz.func84,Tryz.ntmps84
 go_wp2_with fail
 refine (Zgk _ x none 0 0 [] w _ ((Fr.refl _ _).alloc _) HG.out HI.out HX.out rfl Buf.nil Zcb.nil (by omega)).mono ?_
 rw [HM.out,List.nil_append]
 rintro e w' ⟨A3,cap3,rfl,hB,hF,hA⟩
 obtain ⟨b,rfl,hc⟩:=TBuf.bytes hB hne
 have hcv:=run_convert_bytes_back (P:=Tryz.prog) w' 196 9 5 ⟨b,0,none⟩ cap3 m Tryz.underlying196 Tryz.underlying5 Tryz.underlying9 hc
 have HE:Hid (Ext w w'):=(Zcb.nil (w0:=w)).ext ((Fr.refl _ _).alloc _) hF
 clear hB hF hA hc hne
 go_wp2
 go_ret
 exact ⟨rfl,HE.out⟩
end Go.Proofs.YthlipnahcbcjkaaGreatDoor

namespace Go.Proofs.YthlipnahcbcjkaaGreatDoor
open Go.RowKit
end Go.Proofs.YthlipnahcbcjkaaGreatDoor

namespace Go.Proofs.YthlipnahcbcjkaaGreatDoor
open Go.RowKit
end Go.Proofs.YthlipnahcbcjkaaGreatDoor

namespace Go.Proofs.YthlipnahcbcjkaaGreatDoor
open Go.RowKit
theorem Zhc (a p:Int) (hp:0 < p):a % p=if a.tmod p < 0 then a.tmod p + p else a.tmod p:=by
 have h1:=Int.tmod_eq_emod (a:=a) (b:=p)
 have h2:=Int.emod_nonneg a (b:=p) (by omega)
 have h3:=Int.emod_lt_of_pos a hp
 rw [h1]
 split
 ·split<;>omega
 ·split<;>omega
set_option maxHeartbeats 1000000 in
theorem Zh0 (a p:Int) (w:World) (hp:0 < p) (hp2:p≤4294967296) :
 Calls Tryz.prog 66 #[.int .i64 a, .int .i64 p] w fun e w'=>e=.returned (.int .i64 (a % p))∧w=w':=by
 have HE:=zh (Zhc a p hp)
 have g1:((p:Int) == 0)=false:=by simp; omega
 have b1 : -p < a.tmod p:=by have:=Zhc a p hp; have:=Int.emod_nonneg a (b:=p) (by omega); have h4:=Int.tmod_eq_emod (a:=a) (b:=p); have:=Int.emod_lt_of_pos a hp; rw [h4]; split<;>omega
 have b2:a.tmod p < p:=Int.tmod_lt_of_pos a hp
 by_cases hn:a.tmod p < 0
 ·rw [if_pos hn] at HE
  go_enter Tryz.func66,Tryz.ntmps66
  go_wp2
  go_ret
  exact ⟨by rw [HE.out]; rfl,rfl⟩
 ·rw [if_neg hn] at HE
  go_enter Tryz.func66,Tryz.ntmps66
  go_wp2
  go_ret
  exact ⟨by rw [HE.out]; rfl,rfl⟩
theorem ZmL (a p:Int) (w:World) (hp:0 < p) (hp2:p≤4294967296) :
 Calls Tryz.prog 66 #[.int .i64 a, .int .i64 p] w (RetV w (.int .i64 (a % p))) :=
 (Zh0 a p w hp hp2).mono (by rintro e w' ⟨rfl,rfl⟩; exact ⟨rfl,Fr.refl _ _⟩)
end Go.Proofs.YthlipnahcbcjkaaGreatDoor

namespace Go.Proofs.YthlipnahcbcjkaaGreatDoor
open Go.RowKit
theorem Zjc {a b p:Nat} (ha:a < p) (hb:b < p) (hm:p≤2147483647):IntKind.i64.wrap ((a:Int) * (b:Int))=((a * b:Nat):Int)∧a * b≤4611686018427387904:=by
 have h1:a * b≤2147483647 * 2147483647:=Nat.mul_le_mul (by omega) (by omega)
 refine ⟨?_,by omega⟩
 rw [← Int.natCast_mul,IntKind.wrap_i64]
 omega
set_option maxHeartbeats 1000000 in
theorem Zlt (x n p T:Nat) (w:World) (hx:x < p) (hp:2≤p) (hm:p≤2147483647) (hn:n≤2147483647) (hT:x ^ n % p=T) :
 Calls Tryz.prog 209 #[.int .i64 (x:Int), .int .i64 (n:Int), .int .i64 (p:Int)] w fun e w'=>e=.returned (.int .i64 (T:Int))∧w=w':=by
 have HT:=zh hT
 have HN:=zh hn
 have hp0:((p:Int) == 0)=false:=by simp; omega
 have q0:(1:Int).tmod (p:Int)=1:=by rw [Int.tmod_eq_emod_of_nonneg (by omega),Int.emod_eq_of_lt (by omega) (by omega)]
 clear hT hn
 go_enter Tryz.func209,Tryz.ntmps209
 go_wp2
 go_loop [0,1,7] (fun xv nv rv=>∃ x n r:Nat,xv=.int .i64 (x:Int)∧nv=.int .i64 (n:Int)∧rv=.int .i64 (r:Int)∧x < p∧r < p∧n≤2147483647∧Hid (r * x ^ n % p=T)) (fun _ nv _=>(intOf nv).toNat)
 case atStart=>exact ⟨x,n,1,rfl,rfl,rfl,hx,by omega,HN.out,by unfold Hid; rw [Nat.one_mul]; exact HT.out⟩
 case round =>
  clear hx
  obtain ⟨x,n,r,rfl,rfl,rfl,hx,hr,hn,hR⟩:=hrel
  by_cases h0:0 < n
  ·obtain ⟨a1,a2⟩:=Zjc hx hx hm
   obtain ⟨b1,b2⟩:=Zjc hr hx hm
   have a3:((x * x:Nat):Int).tmod (p:Int)=((x * x % p:Nat):Int):=by rw [Int.tmod_eq_emod_of_nonneg (Int.natCast_nonneg _)]; rfl
   have b3:((r * x:Nat):Int).tmod (p:Int)=((r * x % p:Nat):Int):=by rw [Int.tmod_eq_emod_of_nonneg (Int.natCast_nonneg _)]; rfl
   have n1:(n:Int).tmod 2=((n % 2:Nat):Int):=by rw [Int.tmod_eq_emod_of_nonneg (by omega)]; rfl
   have n2:(n:Int).tdiv 2=((n / 2:Nat):Int):=by rw [Int.tdiv_eq_ediv_of_nonneg (by omega)]; rfl
   have hx2:x * x % p < p:=Nat.mod_lt _ (by omega)
   have hr2:r * x % p < p:=Nat.mod_lt _ (by omega)
   by_cases h1:n % 2=1
   ·have HR2:Hid ((r * x % p) * (x * x % p) ^ (n / 2) % p=T):=by unfold Hid; rw [Zl2 h1]; exact hR.out
    rw [h1] at n1
    obtain ⟨xx,ex⟩:∃ xx,x * x=xx:=⟨_,rfl⟩
    obtain ⟨rx,er⟩:∃ rx,r * x=rx:=⟨_,rfl⟩
    rw [ex] at a1 a2 a3 hx2 HR2
    rw [er] at b1 b2 b3 hr2 HR2
    clear ex er hR
    go_wp2
    go_round
    case rel=>exact ⟨xx % p,n / 2,rx % p,rfl,rfl,rfl,hx2,hr2,by omega,HR2⟩
    case measure=>simp [intOf]; omega
   ·have h1':n % 2=0:=by omega
    have HR2:Hid (r * (x * x % p) ^ (n / 2) % p=T):=by unfold Hid; rw [ZkU h1']; exact hR.out
    rw [h1'] at n1
    obtain ⟨xx,ex⟩:∃ xx,x * x=xx:=⟨_,rfl⟩
    rw [ex] at a1 a2 a3 hx2 HR2
    clear ex hR b1 b2 b3 hr2
    go_wp2
    go_round
    case rel=>exact ⟨xx % p,n / 2,r,rfl,rfl,rfl,hx2,hr,by omega,HR2⟩
    case measure=>simp [intOf]; omega
  ·obtain rfl:n=0:=by omega
   have hd:=hR.out
   rw [Nat.pow_zero,Nat.mul_one,Nat.mod_eq_of_lt hr] at hd
   have HD:=zh hd
   clear hd
   go_wp2
   go_ret
   exact ⟨by rw [← HD.out]; rfl,rfl⟩
end Go.Proofs.YthlipnahcbcjkaaGreatDoor

namespace Go.Proofs.YthlipnahcbcjkaaGreatDoor
open Go.RowKit
set_option maxHeartbeats 1000000 in
theorem Zkp (a:Int) (x p:Nat) (w:World) (hP:Pr (p:Int)) (hx:a % (p:Int)=(x:Int)) (h0:0 < x) :
 Calls Tryz.prog 137 #[.int .i64 a, .int .i64 (p:Int)] w fun e w'=>e=.returned (.tuple #[.int .i64 (invN x p:Int), .bool true])∧w=w':=by
 have hp2:2≤p:=by have:=hP.1; omega
 have hpm:p≤2147483647:=by have:=hP.2.1; omega
 have hxp:x < p:=by have:=Int.emod_lt_of_pos a (b:=(p:Int)) (by omega); omega
 have H1:=fun w=>ZfN (p:Int) w
 rw [ZdJ.2 hP] at H1
 have H2:=fun w=>Zh0 a (p:Int) w (by omega) (by omega)
 rw [hx] at H2
 have hx0:((x:Int) == 0)=false:=by simp; omega
 obtain ⟨T,hT⟩:∃ T,invN x p=T:=⟨_,rfl⟩
 rw [hT]
 have HT:Hid (x ^ (p - 2) % p=T):=hT
 have H3:=zh (fun w=>Zlt x (p - 2) p T w hxp hp2 hpm (by omega) HT.out)
 have hs:((p:Int) - 2)=((p - 2:Nat):Int):=by omega
 obtain ⟨m,em⟩:∃ m,p - 2=m:=⟨_,rfl⟩
 rw [em] at H3 hs
 clear hP hx hT HT em
 go_enter Tryz.func137,Tryz.ntmps137
 go_wp2_with (first
  | (go_at_call 125; refine (H1 _).mono ?_; rintro e w' ⟨rfl,rfl⟩)
  | (go_at_call 66; refine (H2 _).mono ?_; rintro e w1 ⟨rfl,rfl⟩)
  | (go_at_call 209; refine (H3.out _).mono ?_; rintro e w1 ⟨rfl,rfl⟩))
 go_ret2
 exact ⟨rfl,rfl⟩
end Go.Proofs.YthlipnahcbcjkaaGreatDoor
